/- Part 25. No condition. -/
import Derived.Test.YtcikkglcoeedlaaGreatDm18
import Derived.Test.YtcikkglcoeedlaaGreatDm20
import Derived.Test.YtcikkglcoeedlaaGreatDm22
import Derived.Test.YtcikkglcoeedlaaGreatDm24
set_option linter.all false
set_option maxRecDepth 100000
set_option maxHeartbeats 4000000
namespace Go.Proofs.YtcikkglcoeedlaaGreat
open _root_.Go.Proofs.Tryz
open Go.RowKit
theorem My{U:Type}{e:U->List Nat}(l:List U)(h:∀x,0<(e x).length):l.length<=(l.flatMap e).length:=Dl (e:=e) (l:=l) λx _=>h x
theorem stg(a c:List Nat):∃B,B=a++c/\B.length=a.length+c.length:=⟨_,rfl,Yac⟩
theorem Ra{f:FuncId}{x:D}{e:List Nat}(h:Wb f x e)(b:List Nat)(I:b.length+e.length<=1000000000000):∃B,B=b++e/\B.length=b.length+e.length/\Con prog f [.own 0,.d x] [.row 5 1 (CA b)] [0] (λr P=>r=.own 0/\P=[.row 5 1 (CA B)]):=⟨_,rfl,Yac,h b I⟩
theorem A8y(k:Cor)(h:CoW k):Wb 19 (AP (Ef k)) (FY k):=Wb.intro λb E=>by
 have Z:FY k=Bs k.n++(Bj k.e++(Bj k.f)):=by simp only[FY,Yaf]
 rw[Z]at E;simp only[Yac]at E;obtain⟨N,n,G,q⟩:=Ra (FT k.n h.n) b ZbC;obtain⟨I,z,B,A⟩:=Ra (JV k.e h.e) N ZbC;obtain⟨F,L,U,K⟩:=Ra (JV k.f h.f) I ZbC;have T:b++FY k=F:=by rw[L,z,n];simp only[FY,Yaf]
 refine Dp func19 rfl (Ag func19 ZbG ZbG) rfl λy=>?_;rw[ntmps19];intro C;apply Y1;refine Bx ?_;refine Wa<|Y0<|Ah ?_
 refine Fn 0 5 1 (λx=>CA (([b,N,I,F]:List (List Nat)).getD x [])) 3 (some 0) (λk=>([3,6,9]:List Nat).getD k 0) [.o 0,.q (.ptr 2 0),.q (.d (eI k.n)),.t 0,.q (.ptr 2 1),.q (.d (Iq k.e)),.t 1,.q (.ptr 2 2),.q (.d (Iq k.f)),.t 2,.o 3] [(3,.ptr 2 0)] [(4,.own 0)] ZbG rfl ⟨rfl,trivial⟩ (λ_ h=>by cases h;rfl) (by refine CSteps.s ?_;refine EX ?_;refine EX ?_;refine OT (q) ?_;refine EX ?_;refine EX ?_;refine OT (A) ?_;refine EX ?_;refine EX ?_;refine OT (K) ?_;refine CSteps.s ?_;exact CSteps.nil) ZbG rfl ZbE ⟨rfl,trivial⟩ [.row 5 1 (CA (F)),.pin [],.var 26 ((Ef k).map .d)] rfl ?_;refine Yn<|BR ?_
 exact Zbg
theorem A6w(c:Clm)(h:ClW c):Wb 110 (AP (EM c)) (Ix c):=Wb.intro λb E=>by
 have Z:Ix c=Bs c.kind++(CH c.p++(Bs c.n++(Bs c.d++(Bs c.r++(CC c.o++(Bj c.l++(By c.s.length++(c.s.flatMap Bs++(Gm c.b))))))))):=by simp only[Ix,Bp,Yaf]
 rw[Z]at E;simp only[Yac]at E;have g:=My c.s Ms;obtain⟨Y,n,L,q⟩:=Ra (FT c.kind h.kind) b ZbC;obtain⟨V,z,J,A⟩:=Ra (Wc c.p h.p) Y ZbC;obtain⟨N,W,U,K⟩:=Ra (FT c.n h.n) V ZbC;obtain⟨B4,s,i,Q⟩:=Ra (FT c.d h.d) N ZbC;obtain⟨H,t,f,C⟩:=Ra (FT c.r h.r) B4 ZbC;obtain⟨P,R,u,F⟩:=Ra (Ym c.o h.o) H ZbC;obtain⟨m,xa,v,I⟩:=Ra (JV c.l h.l) P ZbC;obtain⟨B8,d,j,x⟩:=Ra (GZ c.s.length ZbC) m ZbC;obtain⟨a,r,l⟩:=stg B8 (c.s.flatMap Bs);obtain⟨o,p,xb,X⟩:=Ra (Zm c.b h.b) a ZbC;have T:b++Ix c=o:=by rw[p,r,d,xa,R,t,s,W,z,n];simp only[Ix,Bp,Yaf]
 refine Dp func110 rfl (Ag func110 ZbG ZbG) rfl λy=>?_;rw[ntmps110];intro M;apply Y1;refine Bx ?_;refine Wa<|Y0<|Ah ?_
 refine Fn 0 5 1 (λS=>CA (([b,Y,V]:List (List Nat)).getD S [])) 2 (some 0) (λk=>([3,6]:List Nat).getD k 0) [.o 0,.q (.ptr 2 0),.q (.d (eI c.kind)),.t 0,.q (.ptr 2 1),.q (.d (Lh c.p)),.t 1,.o 2] [(3,.ptr 2 0)] [(0,.own 0),(3,.ptr 2 0)] ZbG rfl ⟨rfl,trivial⟩ (λ_ h=>by cases h;rfl) (by refine CSteps.s ?_;refine EX ?_;refine EX ?_;refine OT (q) ?_;refine EX ?_;refine EX ?_;refine OT (A) ?_;refine CSteps.s ?_;exact CSteps.nil) ZbG rfl ZbE ⟨rfl,rfl,trivial⟩ [.row 5 1 (CA (V)),.pin [],.var 34 ((EM c).map .d)] rfl ?_;refine Yn<|Ah ?_
 refine Fn 0 5 1 (λS=>CA (([V,N,B4,H,P,m]:List (List Nat)).getD S [])) 5 (some 0) (λk=>([3,6,9,12,15]:List Nat).getD k 0) [.o 0,.q (.ptr 2 2),.q (.d (eI c.n)),.t 0,.q (.ptr 2 3),.q (.d (eI c.d)),.t 1,.q (.ptr 2 4),.q (.d (eI c.r)),.t 2,.q (.ptr 2 5),.q (.d (Er c.o)),.t 3,.q (.ptr 2 6),.q (.d (Iq c.l)),.t 4,.o 5] [(3,.ptr 2 0)] [(0,.own 0),(3,.ptr 2 0)] ZbG rfl ⟨rfl,trivial⟩ (λ_ h=>by cases h;rfl) (by refine CSteps.s ?_;refine EX ?_;refine EX ?_;refine OT (K) ?_;refine EX ?_;refine EX ?_;refine OT (Q) ?_;refine EX ?_;refine EX ?_;refine OT (C) ?_;refine EX ?_;refine EX ?_;refine OT (F) ?_;refine EX ?_;refine EX ?_;refine OT (I) ?_;refine CSteps.s ?_;exact CSteps.nil) ZbG rfl ZbE ⟨rfl,rfl,trivial⟩ [.row 5 1 (CA (m)),.pin [],.var 34 ((EM c).map .d)] rfl ?_;refine Yn<|Y1<|Wm ?_;refine Wq AB ?_;refine Wq As ?_;refine Wq (Bh rfl (Aa rfl)) ?_;refine Wq (AO (r:=((c.s.length:Nat):Int)) (ao rfl) (Aa rfl) (Aa rfl) (EW ZbC)) ?_
 refine Cx [0] (x) rfl ZbE rfl ZbB Zbz ZbH Zbx rfl ?_;rintro _ _ ⟨rfl,rfl⟩;refine Kr ?_;refine Wa<|Y0<|Ah<|Y1<|Wa<|Y0<|AWp.block ?_
 refine AC (λw e=>∃k,k<=c.s.length/\w=c.s.length-k/\e=⟨[(0,.own 0),(3,.ptr 2 0),(5,.d (eN k))],[.row 5 1 (CA (B8++(c.s.take k).flatMap Bs)),.pin [],.var 34 ((EM c).map .d)]⟩) ?le ⟨0,by omega,rfl,rfl⟩ ?round
 case le=>exact Ac ZbY ZcP
 case round=>
  rintro w _ ⟨k,B,rfl,rfl⟩;by_cases O:k<c.s.length
  .have B:=Dh Bs O
   have G:=FT (c.s.getD k default) (h.s _ (BC O)) (B8++(c.s.take k).flatMap Bs) ZbW;refine Ah<|Y1<|Wm ?_;refine Wq AB ?_;refine Wq As ?_;refine Wq (Bh rfl (Aa rfl)) ?_;refine Wq Bc ?_;refine Y0<|Ct<|Ys<|Ah<|AWp.block<|AWp.region<|Wm ?_;refine Wq AB ?_;refine Wq As ?_;refine Wm ?_;refine Wq (CE (k:=k) rfl (ao rfl) (Aa rfl) (Aa rfl) rfl O) ?_;refine Wq AT ?_
   refine Cx [0] (G) rfl ZbE rfl ZbB Zbz ZbH Zbx rfl ?_;rintro _ _ ⟨rfl,rfl⟩;refine Kr ?_;refine Wa<|AWl.nil<|Bg<|Yn<|AWp.region<|Wm ?_;refine Wq CL ?_;refine Wa<|AWl.nil ?_
   refine Ai (c.s.length-(k+1)) ZbC ⟨k+1,by omega,rfl,rfl⟩ ?_;exact Ac ZbY (by exact HpLe.cons (OwLe.row (by rw[Ck Bs O,<-Yaf]))<|HpLe.cons (Ak rfl)<|HpLe.cons (Ad rfl)<|HpLe.nil)
  .obtain rfl:k=c.s.length:=by omega
   rw[YaY,<-r];refine Ah<|Y1<|Wm ?_;refine Wq AB ?_;refine Wq As ?_;refine Wq (Bh rfl (Aa rfl)) ?_;refine Wq AL ?_;refine Y0<|Cf<|Cc<|Bz<|BM<|BE<|Yn<|Y1<|Wm ?_;refine Wq AB ?_;refine Wq As ?_
   refine Cx [0] (X) rfl ZbE rfl ZbB Zbz ZbH Zbx rfl ?_;rintro _ _ ⟨rfl,rfl⟩;refine Kr ?_;refine Wa<|Y0<|BR ?_
   exact Zbg
theorem ZX{e:Crt}{k:Nat}(h:k<8):CellAt (DI e) (7+k*1) (eI (e.r.l k)):=by
 rcases lt8 h with rfl | rfl | rfl | rfl | rfl | rfl | rfl | rfl<;>exact⟨(by decide:_<28),rfl⟩
theorem ZW{e:Crt}{k:Nat}(h:k<8):CellAt (DI e) (16+k*1) (Hn (e.r.r k)):=by
 rcases lt8 h with rfl | rfl | rfl | rfl | rfl | rfl | rfl | rfl<;>exact⟨(by decide:_<28),rfl⟩
theorem A1G{f:Nat->RQ}{j:Nat}(h:j<8):PartAt ((MR f).drop (j*4)) 0 4 (Hv (f j)):=by
 have q:=Do (c:=λi=>Hv (f i)) (n:=4) (λ_=>rfl) h;have I:(GY λi=>Hv (f i)).length=32:=Ey (n:=4) (λ_=>rfl);exact⟨by simp only[MR,Ybx,I];omega,q.eq⟩
theorem A8H(e:Crt)(h:CrW e):Wb 109 (AP (DI e)) (Kk e):=Wb.intro λb E=>by
 have Z:Kk e=Bs e.n++(Bj e.cof++(Bj e.g++(CC e.o++(BQ e.c++(BQ e.q++(BQ e.s++(Gz e.r.l++(GW e.r.q++(Kb GW e.r.r++(By e.a.length++(e.a.flatMap GT++(By e.sq.length++(e.sq.flatMap Kt++(By e.x.length++(e.x.flatMap QP++(Gm e.b)))))))))))))))):=by simp only[Kk,JH,Bp,Yaf]
 rw[Z]at E;simp only[Yac]at E;have xK:=My e.a Pw;have xL:=My e.sq A0n;have W:e.x.length<=(e.x.flatMap QP).length:=My e.x (Is Jn);obtain⟨r,H,N,q⟩:=Ra (FT e.n h.n) b ZbC;obtain⟨c,xc,M,A⟩:=Ra (JV e.cof h.cof) r ZbC;obtain⟨a,p,U,K⟩:=Ra (JV e.g h.g) c ZbC;obtain⟨B4,xl,xa,Q⟩:=Ra (Ym e.o h.o) a ZbC;obtain⟨B5,xm,R,F⟩:=Ra (RI e.c h.c) B4 ZbC;obtain⟨B6,xn,xe,I⟩:=Ra (RI e.q h.q) B5 ZbC;obtain⟨i,xo,xf,g⟩:=Ra (RI e.s h.s) B6 ZbC;obtain⟨B8,P,xg⟩:=stg i (Gz e.r.l);obtain⟨z,xk,xh,S⟩:=Ra (XK e.r.q h.r.q) B8 ZbC;obtain⟨xi,xj,xp⟩:=stg z (Kb GW e.r.r);obtain⟨l,xB,xt,v⟩:=Ra (GZ e.a.length ZbC) xi ZbC;obtain⟨xv,xq,xu⟩:=stg l (e.a.flatMap GT);obtain⟨n,xC,xF,o⟩:=Ra (GZ e.sq.length ZbC) xv ZbC;obtain⟨xw,xr,xG⟩:=stg n (e.sq.flatMap Kt);obtain⟨xb,xD,xH,xz⟩:=Ra (GZ e.x.length ZbC) xw ZbC;obtain⟨xx,xs,xI⟩:=stg xb (e.x.flatMap QP);obtain⟨xy,xE,xJ,xA⟩:=Ra (Zm e.b h.b) xx ZbC;have T:b++Kk e=xy:=by rw[xE,xs,xD,xr,xC,xq,xB,xj,xk,P,xo,xn,xm,xl,p,xc,H];simp only[Kk,JH,Bp,Yaf]
 refine Dp func109 rfl (Ag func109 ZbG ZbG) rfl λy=>?_;rw[ntmps109];intro Y;apply Y1;refine Bx ?_;refine Wa<|Y0<|Ah ?_
 refine Fn 0 5 1 (λx=>CA (([b,r,c,a,B4]:List (List Nat)).getD x [])) 4 (some 0) (λk=>([3,6,9,12]:List Nat).getD k 0) [.o 0,.q (.ptr 2 0),.q (.d (eI e.n)),.t 0,.q (.ptr 2 1),.q (.d (Iq e.cof)),.t 1,.q (.ptr 2 2),.q (.d (Iq e.g)),.t 2,.q (.ptr 2 3),.q (.d (Er e.o)),.t 3,.o 4] [(3,.ptr 2 0)] [(0,.own 0),(3,.ptr 2 0)] ZbG rfl ⟨rfl,trivial⟩ (λ_ h=>by cases h;rfl) (by refine CSteps.s ?_;refine EX ?_;refine EX ?_;refine OT (q) ?_;refine EX ?_;refine EX ?_;refine OT (A) ?_;refine EX ?_;refine EX ?_;refine OT (K) ?_;refine EX ?_;refine EX ?_;refine OT (Q) ?_;refine CSteps.s ?_;exact CSteps.nil) ZbG rfl ZbE ⟨rfl,rfl,trivial⟩ [.row 5 1 (CA (B4)),.pin [],.var 46 ((DI e).map .d)] rfl ?_;refine Yn<|Ah ?_
 refine Fn 0 5 1 (λx=>CA (([B4,B5,B6,i]:List (List Nat)).getD x [])) 3 (some 0) (λk=>([3,6,9]:List Nat).getD k 0) [.o 0,.q (.ptr 2 4),.q (.d (TI e.c)),.t 0,.q (.ptr 2 5),.q (.d (TI e.q)),.t 1,.q (.ptr 2 6),.q (.d (TI e.s)),.t 2,.o 3] [(3,.ptr 2 0)] [(0,.own 0),(3,.ptr 2 0)] ZbG rfl ⟨rfl,trivial⟩ (λ_ h=>by cases h;rfl) (by refine CSteps.s ?_;refine EX ?_;refine EX ?_;refine OT (F) ?_;refine EX ?_;refine EX ?_;refine OT (I) ?_;refine EX ?_;refine EX ?_;refine OT (g) ?_;refine CSteps.s ?_;exact CSteps.nil) ZbG rfl ZbE ⟨rfl,rfl,trivial⟩ [.row 5 1 (CA (i)),.pin [],.var 46 ((DI e).map .d)] rfl ?_;refine Yn<|Ah<|Y1<|Wa<|Y0<|AWp.block ?_
 refine AC (λw C=>∃k,k<=8/\w=8-k/\C=⟨[(0,.own 0),(3,.ptr 2 0),(5,.d (eN k))],[.row 5 1 (CA (i++DF (Bs) e.r.l k)),.pin [],.var 46 ((DI e).map .d)]⟩) ?le ⟨0,by omega,rfl,rfl⟩ ?round
 case le=>exact Ac ZbY ZcW
 case round=>
  rintro w _ ⟨k,B,rfl,rfl⟩;by_cases O:k<8
  .have B:=Gu (Bs) e.r.l O
   have f:(DF (Bs) e.r.l 8).length=(Gz e.r.l).length:=rfl;have G:=FT (e.r.l k) (h.r.l k O) (i++DF (Bs) e.r.l k) ZbW;refine Ah<|Y1<|Wm ?_;refine Wq Bc ?_;refine Y0<|Ct<|Ys<|Ah<|AWp.block<|AWp.region<|Wm<|Wm ?_;refine Wq AB ?_;refine Wq AB ?_;refine Wq (Nx (k:=k) (ao rfl) (ao rfl) (Aa rfl) (Aa rfl) O) ?_;refine Wq (MJ (ao rfl) rfl (Aa rfl) rfl (ZX O)) ?_
   exact Zbh
  .obtain rfl:k=8:=by omega
   rw[show i++DF (Bs) e.r.l 8=B8 from P.symm];refine Ah<|Y1<|Wm ?_;refine Wq AL ?_;refine Y0<|Cf<|Cc<|Bz<|BM<|BE<|Yn<|Y1<|Wm ?_;refine Wq AB ?_;refine Wq AB ?_;refine Wq As ?_
   refine Cx [0] (S) rfl ZbE rfl ZbB Zbz ZbH Zbx rfl ?_;rintro _ _ ⟨rfl,rfl⟩;refine Kr ?_;refine Bi (σ':=⟨[(3,.ptr 2 0),(49,.own 0)],[.row 5 1 (CA (z)),.pin [],.var 46 ((DI e).map .d)]⟩) ?_ ?_
   .exact Ac Zdh ZcY
   refine Wa<|Y0<|Ah<|Y1<|Wa<|Y0<|AWp.block ?_
   refine AC (λw C=>∃k,k<=8/\w=8-k/\C=⟨[(0,.own 0),(3,.ptr 2 0),(6,.d (eN k))],[.row 5 1 (CA (z++DF (GW) e.r.r k)),.pin [],.var 46 ((DI e).map .d)]⟩) ?le ⟨0,by omega,rfl,rfl⟩ ?round
   case le=>exact Ac ZbY ZcW
   case round=>
    rintro w _ ⟨k,B,rfl,rfl⟩;by_cases O:k<8
    .have B:=Gu (GW) e.r.r O
     have f:(DF (GW) e.r.r 8).length=(Kb GW e.r.r).length:=rfl;have G:=XK (e.r.r k) (h.r.r k O) (z++DF (GW) e.r.r k) ZbW;refine Ah<|Y1<|Wm ?_;refine Wq Bc ?_;refine Y0<|Ct<|Ys<|Ah<|AWp.block<|AWp.region<|Wm<|Wm ?_;refine Wq AB ?_;refine Wq AB ?_;refine Wq (Nx (k:=k) (ao rfl) (ao rfl) (Aa rfl) (Aa rfl) O) ?_;refine Wq (MJ (ao rfl) rfl (Aa rfl) rfl (ZW O)) ?_
     exact Zbh
    .obtain rfl:k=8:=by omega
     rw[show z++DF (GW) e.r.r 8=xi from xj.symm];refine Ah<|Y1<|Wm ?_;refine Wq AL ?_;refine Y0<|Cf<|Cc<|Bz<|BM<|BE<|Yn<|Y1<|Wm ?_;refine Wq AB ?_;refine Wq As ?_;refine Wq (Bh rfl (Aa rfl)) ?_;refine Wq (AO (r:=((e.a.length:Nat):Int)) (ao rfl) (Aa rfl) (Aa rfl) (EW ZbC)) ?_
     refine Cx [0] (v) rfl ZbE rfl ZbB Zbz ZbH Zbx rfl ?_;rintro _ _ ⟨rfl,rfl⟩;refine Kr ?_;refine Bi (σ':=⟨[(3,.ptr 2 0),(66,.own 0)],[.row 5 1 (CA (l)),.pin [],.var 46 ((DI e).map .d)]⟩) ?_ ?_
     .exact Ac Zdh ZcY
     refine Wa<|Y0<|Ah<|Y1<|Wa<|Y0<|AWp.block ?_
     refine AC (λw C=>∃k,k<=e.a.length/\w=e.a.length-k/\C=⟨[(0,.own 0),(3,.ptr 2 0),(7,.d (eN k))],[.row 5 1 (CA (l++(e.a.take k).flatMap GT)),.pin [],.var 46 ((DI e).map .d)]⟩) ?le ⟨0,by omega,rfl,rfl⟩ ?round
     case le=>exact Ac ZbY ZcP
     case round=>
      rintro w _ ⟨k,B,rfl,rfl⟩;by_cases O:k<e.a.length
      .have B:=Dh GT O
       obtain⟨t,L⟩:∃t,t=e.a.getD k default:=⟨_,rfl⟩;have J:=h.a _ (BC O);rw[<-L]at B J;have m:(GT t).length=(CD t.1).length+(CD t.2).length:=by rw[GT,Yac]
       have g0:=EZ t.1 J.1 (l++(e.a.take k).flatMap GT) ZbW;have V:=EZ t.2 J.2 (l++(e.a.take k).flatMap GT++CD t.1) ZbW;refine Ah<|Y1<|Wm ?_;refine Wq AB ?_;refine Wq As ?_;refine Wq (Bh rfl (Aa rfl)) ?_;refine Wq Bc ?_;refine Y0<|Ct<|Ys<|Ah<|AWp.block ?_
       refine Fn 0 5 1 (λx=>CA (([l++(e.a.take k).flatMap GT,l++(e.a.take k).flatMap GT++CD t.1,l++(e.a.take k).flatMap GT++CD t.1++CD t.2]:List (List Nat)).getD x [])) 2 (some 0) (λk=>([7,14]:List Nat).getD k 0) [.o 0,.q (.ptr 2 24),.q (.d (WD e.a)),.q (.d (eN k)),.q (.d (Fk 129 (Ju t))),.q (.d (Fk 129 ((Ju t).drop 0))),.q (.d (AP (Hv t.1))),.t 0,.q (.ptr 2 24),.q (.d (WD e.a)),.q (.d (eN k)),.q (.d (Fk 129 (Ju t))),.q (.d (Fk 129 ((Ju t).drop 4))),.q (.d (AP (Hv t.2))),.t 1,.o 2] [(3,.ptr 2 0),(7,.d (eN k))] [(0,.own 0),(3,.ptr 2 0),(7,.d (eN k))] ZbG rfl ⟨rfl,rfl,trivial⟩ (λ_ h=>by cases h;rfl) ZcN ZbG rfl ZbE ⟨rfl,rfl,rfl,trivial⟩ [.row 5 1 (CA (l++(e.a.take k).flatMap GT++CD t.1++CD t.2)),.pin [],.var 46 ((DI e).map .d)] rfl ?_;refine Bg<|Yn<|AWp.region<|Wm ?_;refine Wq CL ?_;refine Wa<|AWl.nil ?_
       refine Ai (e.a.length-(k+1)) ZbC ⟨k+1,by omega,rfl,rfl⟩ ?_;exact Ac ZbY (by(refine HpLe.cons (OwLe.row (by rw[Ck GT O,<-L,GT];simp only[Yaf])) ?_);exact HpLe.cons (Ak rfl)<|HpLe.cons (Ad rfl)<|HpLe.nil)
      .obtain rfl:k=e.a.length:=by omega
       rw[YaY,<-xq];refine Ah<|Y1<|Wm ?_;refine Wq AB ?_;refine Wq As ?_;refine Wq (Bh rfl (Aa rfl)) ?_;refine Wq AL ?_;refine Y0<|Cf<|Cc<|Bz<|BM<|BE<|Yn<|Y1<|Wm ?_;refine Wq AB ?_;refine Wq As ?_;refine Wq (Bh rfl (Aa rfl)) ?_;refine Wq (AO (r:=((e.sq.length:Nat):Int)) (ao rfl) (Aa rfl) (Aa rfl) (EW ZbC)) ?_
       refine Cx [0] (o) rfl ZbE rfl ZbB Zbz ZbH Zbx rfl ?_;rintro _ _ ⟨rfl,rfl⟩;refine Kr ?_;refine Bi (σ':=⟨[(3,.ptr 2 0),(94,.own 0)],[.row 5 1 (CA (n)),.pin [],.var 46 ((DI e).map .d)]⟩) ?_ ?_
       .exact Ac Zdh ZcY
       refine Wa<|Y0<|Ah<|Y1<|Wa<|Y0<|AWp.block ?_
       refine AC (λw C=>∃k,k<=e.sq.length/\w=e.sq.length-k/\C=⟨[(0,.own 0),(3,.ptr 2 0),(8,.d (eN k))],[.row 5 1 (CA (n++(e.sq.take k).flatMap Kt)),.pin [],.var 46 ((DI e).map .d)]⟩) ?le ⟨0,by omega,rfl,rfl⟩ ?round
       case le=>exact Ac ZbY ZcP
       case round=>
        rintro w _ ⟨k,B,rfl,rfl⟩;by_cases O:k<e.sq.length
        .have B:=Dh Kt O
         obtain⟨t,L⟩:∃t,t=e.sq.getD k default:=⟨_,rfl⟩;have J:=h.sq _ (BC O);rw[<-L]at B J;have m:(Kt t).length=(CD t.1).length+(CH t.2).length:=by rw[Kt,Yac]
         have g0:=EZ t.1 J.1 (n++(e.sq.take k).flatMap Kt) ZbW;have V:=Wc t.2 J.2 (n++(e.sq.take k).flatMap Kt++CD t.1) ZbW;refine Ah<|Y1<|Wm ?_;refine Wq AB ?_;refine Wq As ?_;refine Wq (Bh rfl (Aa rfl)) ?_;refine Wq Bc ?_;refine Y0<|Ct<|Ys<|Ah<|AWp.block ?_
         refine Fn 0 5 1 (λx=>CA (([n++(e.sq.take k).flatMap Kt,n++(e.sq.take k).flatMap Kt++CD t.1,n++(e.sq.take k).flatMap Kt++CD t.1++CH t.2]:List (List Nat)).getD x [])) 2 (some 0) (λk=>([7,14]:List Nat).getD k 0) [.o 0,.q (.ptr 2 25),.q (.d (VD e.sq)),.q (.d (eN k)),.q (.d (Fk 184 (JF t))),.q (.d (Fk 184 ((JF t).drop 0))),.q (.d (AP (Hv t.1))),.t 0,.q (.ptr 2 25),.q (.d (VD e.sq)),.q (.d (eN k)),.q (.d (Fk 184 (JF t))),.q (.d (Fk 184 ((JF t).drop 4))),.q (.d (Lh t.2)),.t 1,.o 2] [(3,.ptr 2 0),(8,.d (eN k))] [(0,.own 0),(3,.ptr 2 0),(8,.d (eN k))] ZbG rfl ⟨rfl,rfl,trivial⟩ (λ_ h=>by cases h;rfl) ZcN ZbG rfl ZbE ⟨rfl,rfl,rfl,trivial⟩ [.row 5 1 (CA (n++(e.sq.take k).flatMap Kt++CD t.1++CH t.2)),.pin [],.var 46 ((DI e).map .d)] rfl ?_;refine Bg<|Yn<|AWp.region<|Wm ?_;refine Wq CL ?_;refine Wa<|AWl.nil ?_
         refine Ai (e.sq.length-(k+1)) ZbC ⟨k+1,by omega,rfl,rfl⟩ ?_;exact Ac ZbY (by(refine HpLe.cons (OwLe.row (by rw[Ck Kt O,<-L,Kt];simp only[Yaf])) ?_);exact HpLe.cons (Ak rfl)<|HpLe.cons (Ad rfl)<|HpLe.nil)
        .obtain rfl:k=e.sq.length:=by omega
         rw[YaY,<-xr];refine Ah<|Y1<|Wm ?_;refine Wq AB ?_;refine Wq As ?_;refine Wq (Bh rfl (Aa rfl)) ?_;refine Wq AL ?_;refine Y0<|Cf<|Cc<|Bz<|BM<|BE<|Yn<|Y1<|Wm ?_;refine Wq AB ?_;refine Wq As ?_;refine Wq (Bh rfl (Aa rfl)) ?_;refine Wq (AO (r:=((e.x.length:Nat):Int)) (ao rfl) (Aa rfl) (Aa rfl) (EW ZbC)) ?_
         refine Cx [0] (xz) rfl ZbE rfl ZbB Zbz ZbH Zbx rfl ?_;rintro _ _ ⟨rfl,rfl⟩;refine Kr ?_;refine Bi (σ':=⟨[(3,.ptr 2 0),(122,.own 0)],[.row 5 1 (CA (xb)),.pin [],.var 46 ((DI e).map .d)]⟩) ?_ ?_
         .exact Ac Zdh ZcY
         refine Wa<|Y0<|Ah<|Y1<|Wa<|Y0<|AWp.block ?_
         refine AC (λw C=>∃k,k<=e.x.length/\w=e.x.length-k/\C=⟨[(0,.own 0),(3,.ptr 2 0),(9,.d (eN k))],[.row 5 1 (CA (xb++(e.x.take k).flatMap QP)),.pin [],.var 46 ((DI e).map .d)]⟩) ?le ⟨0,by omega,rfl,rfl⟩ ?round
         case le=>exact Ac ZbY ZcP
         case round=>
          rintro w _ ⟨k,B,rfl,rfl⟩;by_cases O:k<e.x.length
          .have B:=Dh QP O
           obtain⟨t,L⟩:∃t,t=e.x.getD k default:=⟨_,rfl⟩;have J:=h.x _ (BC O);rw[<-L]at B J;have s:(QP t).length=(DF CD t 8).length:=rfl;refine Ah<|Y1<|Wm ?_;refine Wq AB ?_;refine Wq As ?_;refine Wq (Bh rfl (Aa rfl)) ?_;refine Wq Bc ?_;refine Y0<|Ct<|Ys<|Ah<|AWp.block<|Y1<|Wa<|Y0<|AWp.block ?_
           refine AC (λw C=>∃j,j<=8/\w=8-j/\C=⟨[(0,.own 0),(3,.ptr 2 0),(9,.d (eN k)),(10,.d (eN j))],[.row 5 1 (CA (xb++(e.x.take k).flatMap QP++DF CD t j)),.pin [],.var 46 ((DI e).map .d)]⟩) ?lej ⟨0,by omega,rfl,rfl⟩ ?roundj
           case lej=>exact Ac ZeB ZcW
           case roundj=>
            rintro w _ ⟨j,X,rfl,rfl⟩;by_cases d:j<8
            .have u:=Gu CD t d
             have xd:=EZ (t j) (J j d) (xb++(e.x.take k).flatMap QP++DF CD t j) ZbW;refine Ah<|Y1<|Wm ?_;refine Wq Bc ?_;refine Y0<|Ct<|Ys<|Ah<|AWp.block<|AWp.region<|Wm ?_;refine Wq AB ?_;refine Wq As ?_;refine Wm<|Wm ?_;refine Wq (Je (k:=k) rfl (ao rfl) (Aa rfl) (Aa rfl) rfl O L) ?_;refine Wq (Md (k:=j) (ao rfl) (ao rfl) (Aa rfl) (Aa rfl) d) ?_;refine Wq (Xt (ao rfl) (Aa rfl) rfl (A1G d)) ?_
             refine Cx [0] (xd) rfl ZbE rfl ZbB Zbz ZbH Zbx rfl ?_;rintro _ _ ⟨rfl,rfl⟩;refine Kr ?_;refine Wa<|AWl.nil<|Bg<|Yn<|AWp.region<|Wm ?_;refine Wq CL ?_;refine Wa<|AWl.nil ?_
             refine Ai (8-(j+1)) ZbC ⟨j+1,by omega,rfl,rfl⟩ ?_;exact Ac ZeB ZdU
            .obtain rfl:j=8:=by omega
             refine Ah<|Y1<|Wm ?_;refine Wq AL ?_;refine Y0<|Cf<|Cc<|Bz<|BM<|BE<|Bg<|Yn<|AWp.region<|Wm ?_;refine Wq CL ?_;refine Wa<|AWl.nil ?_
             refine Ai (e.x.length-(k+1)) ZbC ⟨k+1,by omega,rfl,rfl⟩ ?_;exact Ac ZbY (by(refine HpLe.cons (OwLe.row (by rw[Ck QP O,<-L,<-Yaf];rfl)) ?_);exact HpLe.cons (Ak rfl)<|HpLe.cons (Ad rfl)<|HpLe.nil)
          .obtain rfl:k=e.x.length:=by omega
           rw[YaY,<-xs];refine Ah<|Y1<|Wm ?_;refine Wq AB ?_;refine Wq As ?_;refine Wq (Bh rfl (Aa rfl)) ?_;refine Wq AL ?_;refine Y0<|Cf<|Cc<|Bz<|BM<|BE<|Yn<|Y1<|Wm ?_;refine Wq AB ?_;refine Wq As ?_
           refine Cx [0] (xA) rfl ZbE rfl ZbB Zbz ZbH Zbx rfl ?_;rintro _ _ ⟨rfl,rfl⟩;refine Kr ?_;refine Wa<|Y0<|BR ?_
           exact Zbg
theorem A2K(f:Fct)(h:FW f)(I:(EH f).length<=1000000000000):Abs prog 47 [AP (DG f)] (Eq 5 (EH f)):=by
 simp only[EH,Yac]at I;have c:=A8y f.k h.k [] ZiI;have q:=A6w f.c h.c (FY f.k) ZbC;have A:=A8H f.e h.e (FY f.k++Ix f.c) ZdL;refine Ab func47 λy=>?_;rw[ntmps47];apply Y1;refine Bx ?_;refine Wa<|Y0<|Ah ?_
 refine MN 5 1 rfl rfl rfl ?_;refine Fn 1 5 1 (λx=>CA (([[],[],FY f.k,FY f.k++Ix f.c,FY f.k++Ix f.c++Kk f.e]:List (List Nat)).getD x [])) 4 none (λk=>([0,3,6,9]:List Nat).getD k 0) [.t 0,.q (.ptr 0 0),.q (.d (AP (Ef f.k))),.t 1,.q (.ptr 0 3),.q (.d (AP (EM f.c))),.t 2,.q (.ptr 0 12),.q (.d (AP (DI f.e))),.t 3,.o 4] [(1,.ptr 0 0)] [(2,.own 1)] ZbG rfl ⟨rfl,trivial⟩ (λ_ h=>by cases h) (by refine CSteps.m (Aa rfl) (Aa rfl) rfl rfl rfl rfl ?_;refine EX ?_;refine EX ?_;refine OT (c) ?_;refine EX ?_;refine EX ?_;refine OT (q) ?_;refine EX ?_;refine EX ?_;refine OT (A) ?_;refine CSteps.s ?_;exact CSteps.nil) ZbG rfl ZbE ⟨rfl,trivial⟩ [.var 48 ((DG f).map .d),.row 5 1 (CA (FY f.k++Ix f.c++Kk f.e))] rfl ?_;exact Zfz
theorem Vr(f g:Fct)(q:FW f)(R:FW g)(E:(EH f).length<=1000000000000)(A:(EH g).length<=1000000000000):Abs prog 13 [AP (DG f),AP (DG g)] (eB (decide (EH f=EH g))):=by
 have K:=A2K f q E;have F:=A2K g R A;obtain⟨⟨n,e,p⟩,c,x⟩:=f;obtain⟨⟨h,G,r⟩,l,N⟩:=g;refine Ab func13 λy=>?_;rw[ntmps13];refine Go ?_;refine Dy 7 ?_;refine DA ?_;refine⟨_,HStep.q rfl (Fm (l:=EH ⟨⟨n,e,p⟩,c,x⟩) rfl (Aa rfl) (Aa rfl) (Aa rfl)),?_⟩;refine DA ?_;refine Xq (Fm (l:=EH ⟨⟨h,G,r⟩,l,N⟩) rfl (Aa rfl) (Aa rfl) (Aa rfl)) ?_;refine⟨_,HStep.q rfl (A78 (b:=EH ⟨⟨n,e,p⟩,c,x⟩) (c:=EH ⟨⟨h,G,r⟩,l,N⟩) rfl rfl (Py _) (Py _)),?_⟩;exact Zhh
