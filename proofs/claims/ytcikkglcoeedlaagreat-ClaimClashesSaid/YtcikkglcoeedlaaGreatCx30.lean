/- Part 30 of the proof of claimClashes_holds. No condition. -/
import Derived.Test.YtcikkglcoeedlaaGreatCx19
import Derived.Test.YtcikkglcoeedlaaGreatCx20
import Derived.Test.YtcikkglcoeedlaaGreatCx21
import Derived.Test.YtcikkglcoeedlaaGreatCx23
import Derived.Test.YtcikkglcoeedlaaGreatCx24
import Derived.Test.YtcikkglcoeedlaaGreatCx26
import Derived.Test.YtcikkglcoeedlaaGreatCx29
set_option linter.unusedSimpArgs false
set_option linter.unusedVariables false
set_option maxRecDepth 100000
set_option maxHeartbeats 4000000
namespace Go.Proofs.YtcikkglcoeedlaaGreat
variable{a J vQ vR ut uz:Int}{uy:List RTm}{n:Nat}{x y:Operand}{j:Type}{t:TypeId}
section
open Go.RowKit
theorem A2z{s t:Tm}(h:Em s=Em t):s=t:=by
 have u:decide (s.c.num<0)=decide (t.c.num<0):=congrArg RTm.b h;have A:Ao s.c.num.natAbs=Ao t.c.num.natAbs:=congrArg RTm.l h;have I:decide ((s.c.den:Int)<0)=decide ((t.c.den:Int)<0):=congrArg RTm.b' h;have V:Ao (s.c.den:Int).natAbs=Ao (t.c.den:Int).natAbs:=congrArg RTm.l' h;have m:s.m=t.m:=congrArg RTm.m h;have d:=NH u A;have v:=NH I V;have U:s.c.den=t.c.den:=by omega
 have F:s.c=t.c:=Rat.ext d U;cases s;cases t;simp only[Tm.mk.injEq];exact⟨F,m⟩
open Classical in
noncomputable def toT (r:RTm):Tm:=if h:∃t,Em t=r then h.choose else default
noncomputable def Km (p:List RTm):List Tm:=p.map toT
theorem A3Y(t:Tm):toT (Em t)=t:=by
 have h:∃f,Em f=Em t:=⟨t,rfl⟩;unfold toT;rw[dif_pos h];exact A2z h.choose_spec
theorem A4e{r:RTm}(h:QOk r.b r.l r.b' r.l'):Em (toT r)=r:=by
 obtain⟨q,d,v,U,F⟩:=h;have A:∃t,Em t=r:=⟨⟨q,r.m⟩,by cases r;simp only[Em,RTm.mk.injEq];exact⟨d.symm,v.symm,U.symm,F.symm,trivial⟩⟩;unfold toT;rw[dif_pos A];exact A.choose_spec
theorem NX(P:List Tm):Km (P.map Em)=P:=by
 unfold Km;rw[List.map_map]
 conv=>rhs;rw[<-List.map_id P]
 exact List.map_congr_left λt _=>A3Y t
theorem Vl(p:List RTm):(Km p).length=p.length:=by simp[Km]
theorem RI(h:Gs uy):uy=(Km uy).map Em/\Canon (Km uy)/\PIn (Km uy) 0 65535:=by
 have u:uy=(Km uy).map Em:=by
  unfold Km;rw[List.map_map]
  conv=>lhs;rw[<-List.map_id uy]
  refine List.map_congr_left λr Y=>?_;obtain⟨k,B,e⟩:=List.getElem_of_mem Y;have A:=(h k B).1.1;have I:Ek uy k=r:=by unfold Ek;exact Zfu
  rw[I]at A;exact(A4e A).symm
 obtain⟨P,X⟩:∃P,P=Km uy:=⟨_,rfl⟩;rw[<-X]at u ⊢;subst u;have q:∀k,k<P.length->Ek (P.map Em) k=Em (Cm P k):=λk B=>RU B;have L:(P.map Em).length=P.length:=List.length_map _;refine⟨rfl,⟨A4C λk B g=>?_,λt M=>?_⟩,λt M=>?_⟩
 .have V:=(h k (by rw [L]; exact B)).2 g
  rw[q k B,q (k-1) Zbx]at V;exact V
 .obtain ⟨k,B,e⟩:=List.getElem_of_mem M
  have V:=(h k (by rw[L];exact B)).1.2.1;have m:Cm P k=t:=by unfold Cm;exact Zfu
  rw[q k B,m]at V;intro f;apply V;show Ao t.c.num.natAbs=[];rw[f];exact Br
 .obtain ⟨k,B,e⟩:=List.getElem_of_mem M
  have V:=(h k (by rw[L];exact B)).1.2.2;have m:Cm P k=t:=by unfold Cm;exact Zfu
  rw[q k B,m]at V;exact V
structure WZ(l:List Nat):Prop where
 s:Bt l
 n:l.length<=10000
structure QZ(q:RQ):Prop where
 n:WZ q.l
 d:WZ q.l'
structure TZ(t:RTm):Prop where
 n:WZ t.l
 d:WZ t.l'
structure PZ(p:List RTm):Prop where
 t:∀r∈p,TZ r
 n:p.length<=40000
structure LZ{α:Type}(D:α->Prop)(l:List α):Prop where
 e:∀x∈l,D x
 n:l.length<=40000
theorem PZ.rt{p:List RTm}(h:PZ p):A5z p:=λr Y=>⟨(h.t r Y).n.s,(h.t r Y).d.s,by have:=(h.t r Y).n.n;omega,by have:=(h.t r Y).d.n;omega⟩
theorem PZ.sz(h:PZ uy)(o:Gs uy):PSz (Km uy) 10000:=λt M=>by
 obtain⟨u,_,_⟩:=RI o;have s:Em t∈uy:=by rw[u];exact List.mem_map_of_mem M
 have A:=h.t _ s;exact⟨A.n.n,A.d.n⟩
theorem PZ.len{p:List RTm}(h:PZ p):(Km p).length<=40000:=by rw[Vl];exact h.n
def BdP(n d:Int)(p:List RTm):Prop:=Gs p/\RJ (Km p)<2^n.toNat/\Mo (Km p)<=d
theorem A2B{P:List Tm}(X:PSz P n)(G:Canon P):PSz (Ki P) (1+P.length*n+n):=by
 by_cases g:P.length=0
 .unfold Ki
  rw[if_pos g];intro t M;cases M
 .unfold Ki
  rw[if_neg g];exact Xl (XE P X G Zbx) X
def pAt(l:List (List RTm))(k:Nat):List RTm:=l.getD k default
def EqP(n u:Int)(p:List RTm):Prop:=BdP n 12 p/\u<=Mo (Km p)/\CC (Ki (Km p)) (Km p)=0
def Lu(n p:Int)(l:List (List RTm)):Prop:=l.length<=12/\∀i,i<l.length->EqP n p (pAt l i)/\(0<i->CC (Km (pAt l (i-1))) (Km (pAt l i))<0)
def PX(k:Cor):Prop:=1<=k.n/\k.n<=4/\Lu k.n 0 k.e/\Lu k.n 1 k.f
structure CZ(k:Cor):Prop where
 n:IW k.n
 e:LZ PZ k.e
 f:LZ PZ k.f
theorem XD{l:List (List RTm)}(h:n<l.length):pAt l n∈l:=BX h
theorem A3q{d:Int}(o:Gs uy):BdP (n:Int) d uy↔RJ (Km uy)<2^n/\Mo (Km uy)<=d:=⟨λh=>h.2,λh=>⟨o,h⟩⟩
open Classical in
theorem Nf(m:Nat)(s:1<=m/\m<=4)(e f:List (List RTm))(p:List RTm)(d:Int)(F:PZ p):Abs Tryz.prog 154 [AL (FI ⟨(m:Nat),e,f⟩),IU p,ex (.int .i64 d)] (ex (.bool (decide (BdP (m:Nat) d p)))):=by
 have W:=F.n;have O:=WO p F.rt Zbx;by_cases o:Gs p
 .rw [decide_eq_true o]at O
  obtain⟨A,B,I⟩:=RI o;have N:=F.len;have Q:=A3q (n:=m) (d:=d) o;obtain⟨P,X⟩:∃P,P=Km p:=⟨_,rfl⟩;rw[<-X]at A B I N Q;have L:=ZP P Zbx;have b:=UO P I Zbx;have a:=Xi P;rw[JI,<-A]at L b;obtain⟨u,M⟩:∃u,u=RJ P:=⟨_,rfl⟩;obtain⟨g,K⟩:∃g,g=Mo P:=⟨_,rfl⟩;rw[<-M]at L Q a;rw[<-K]at b Q;have Y:Min.min m IntKind.i64.bits=m:=Nat.min_eq_left (by show m<=64;omega);obtain⟨x,C⟩:∃x,x=u/2^m:=⟨_,rfl⟩;have Z:((u:Nat):Int).fdiv (2^m)=((x:Nat):Int):=by rw[DY rfl,C]
  have S:x=0↔u<2^m:=by rw[C,Nat.div_eq_zero_iff];have:0<2^m:=Nat.pow_pos ZbA;omega
  by_cases V:u<2^m
  .obtain rfl:=S.2 V
   by_cases E:g<=d
   .rw [decide_eq_true (Q.2 ⟨V,E⟩)]
    refine Ab Tryz.func154 λG=>?_;rw[Tryz.ntmps154];refine Go ?_;refine Dy 18 ?_;refine CY ?_;exact ZfD
   .rw [decide_eq_false λh=>E (Q.1 h).2]
    refine Ab Tryz.func154 λG=>?_;rw[Tryz.ntmps154];refine Go ?_;refine Dy 18 ?_;refine CY ?_;exact ZfD
  .have R:x≠0:=λe=>V (S.1 e)
   rw[decide_eq_false λh=>V (Q.1 h).1];refine Ab Tryz.func154 λG=>?_;rw[Tryz.ntmps154];refine Go ?_;refine Dy 18 ?_;refine CY ?_;exact ZfD
 .rw [decide_eq_false o]at O
  rw[decide_eq_false λh:BdP (m:Nat) d p=>o h.1];refine Ab Tryz.func154 λG=>?_;rw[Tryz.ntmps154];refine Go ?_;refine Dy 18 ?_;exact ZfC
def WU(n p:Int)(l:List (List RTm))(i:Nat):Prop:=EqP n p (pAt l i)/\(0<i->CC (Km (pAt l (i-1))) (Km (pAt l i))<0)
open Classical in
theorem Oi(m:Nat)(s:1<=m/\m<=4)(e f l:List (List RTm))(r:Int)(M:LZ PZ l):Abs Tryz.prog 152 [AL (FI ⟨(m:Nat),e,f⟩),HU l,ex (.int .i64 r)] (ex (.bool (decide (Lu (m:Nat) r l)))):=by
 have xi:=M.n;by_cases o:l.length<=12
 .refine Ab Tryz.func152 λN=>?_
  rw[Tryz.ntmps152];refine Go ?_;refine AE (λO G=>∃k,k<=l.length/\O=l.length-k/\(∀j,j<k->WU (m:Nat) r l j)/\G=⟨[(1,.d (HU l)),(2,.d (ex (.int .i64 r))),(3,.ptr 0 0),(12,.d (HU l)),(13,.d (ex (.int .i64 (l.length:Nat)))),(14,.d (ex (.int .i64 (k:Nat))))],[.var 139 ((FI ⟨(m:Nat),e,f⟩).map .d)]⟩) ?le ⟨0,by omega,rfl,λj i=>absurd i (Nat.not_lt_zero j),rfl⟩ ?round
  case le=>exact Ac Zdi Zdn
  case round=>
   rintro O _ ⟨k,B,rfl,d,rfl⟩;by_cases C:k<l.length
   .have F:PZ (pAt l k):=M.e _ (XD C)
    have T:=F.n;obtain⟨p,t⟩:∃p,p=pAt l k:=⟨_,rfl⟩;have b:=λh:Lu (m:Nat) r l=>h.2 k C;rw[<-t]at F T b;have W:=Nf m s e f p 12 F;by_cases E:BdP (m:Nat) 12 p
    .rw [decide_eq_true E]at W
     obtain⟨u,A,I⟩:=RI E.1;have o:=F.len;have w:=F.sz E.1;obtain⟨P,S⟩:∃P,P=Km p:=⟨_,rfl⟩
     have X:EqP (m:Nat) r p↔r<=Mo P/\CC (Ki P) P=0:=by
      rw[S];exact⟨λh=>h.2,λh=>⟨E,h⟩⟩
     rw[<-S]at u A I o w b;have xg:P.length*10000<=400000000:=Nat.mul_le_mul_right 10000 o;have U:=UO P I Zbx;have H:=WQ P 10000 w A I Zbx Zbx;have J:=Ry (Ki P) P ((A2B w A).mono Zbx) (w.mono Zbx) (by rw[A2C];omega) Zbx;rw[JI P,<-u]at U H J;obtain⟨g,R⟩:∃g,g=Mo P:=⟨_,rfl⟩;rw[<-R]at U X;have xh:=t;subst t;by_cases V:r<=g
     .by_cases K:CC (Ki P) P=0
      .rw [decide_eq_true K]at J
       by_cases n:k=0
       .have xa:∀j,j<k+1->WU (m:Nat) r l j:=λj i=>by
         obtain rfl:j=k:=by omega
         exact⟨X.2 ⟨V,K⟩,λh=>absurd h Zbx⟩
        obtain rfl:=n;refine Go ?_;refine Am (l.length-(0+1)) Zbx ⟨0+1,by omega,rfl,xa,rfl⟩ ?_;exact Ac Zdi Zdn
       .have L:PZ (pAt l (k-1)):=M.e _ (XD Zbx)
        have x:=(d (k-1) Zbx).1.1;obtain⟨Z,Y,c⟩:=RI x.1;have xf:=L.len;have xc:=L.sz x.1;obtain⟨q,xb⟩:∃q,q=pAt l (k-1):=⟨_,rfl⟩;rw[<-xb]at L Z Y c xf xc;obtain⟨Q,a⟩:∃Q,Q=Km q:=⟨_,rfl⟩;rw[<-a]at Z Y c xf xc;have v:=A1L Q P (xc.mono Zbx) (w.mono Zbx) Zbx Zbx;rw[JI P,<-u,JI Q,<-Z]at v;obtain⟨z,xd⟩:∃z,z=CC Q P:=⟨_,rfl⟩;rw[<-xd]at v;have xe:=xb;subst xb;by_cases y:z<0
        .have xa:∀j,j<k+1->WU (m:Nat) r l j:=λj i=>by
          rcases Nat.lt_or_ge j k with i | i
          .exact d j i
          .obtain rfl:j=k:=by omega
           exact⟨X.2 ⟨V,K⟩,λ_=>by rw[<-xe,<-S,<-a,<-xd];exact y⟩
         apply Y1;refine Wq AZ ?_;refine Y0<|Aj<|Ct<|Ys<|Aj<|AWp.block<|Y1<|Wm ?_;refine Wq EK ?_;refine Wq Az ?_;refine Wa<|Wa<|Y0<|Aj<|Y1 ?_;refine Wq Bg ?_;refine Wm ?_;refine Wq (BC (W)) ?_;refine Wq Jy ?_;refine Wm ?_;refine Wg CS ?_;refine Wg (BC (U)) ?_;refine Wg CS ?_;refine Wg AR ?_;refine Wq CE ?_;refine Y0<|Cf<|Ys<|Aj<|Y1<|Wm ?_;refine Wq (BC (H)) ?_;refine Wm ?_;refine Wq (BC (J)) ?_;refine Wq Jy ?_;refine Y0<|Cf<|Ys<|Y1<|Wm ?_;refine Wq AZ ?_;refine Wm ?_;refine Wg CS ?_;refine Wg CS ?_;refine Wg (LI (ao rfl) (ao rfl) Zbx Zbx) ?_;refine Wg EK ?_;refine Wg Az ?_;refine Wg CS ?_;refine Wg (BC (v)) ?_;refine Wg AR ?_;refine Wq EC ?_;refine Y0<|Cf<|Gm<|BE<|Yn<|AWp.region ?_;refine Wq Eb ?_;refine Wm<|AWl.nil ?_
         refine Am (l.length-(k+1)) Zbx ⟨k+1,by omega,rfl,xa,rfl⟩ ?_;exact Ac Zdi Zdn
        .rw [decide_eq_false λh=>y (by have:=(b h).2 Zbx; rw [<-xe, <-a, <-xd] at this; exact this)]
         apply Y1;refine Wq AZ ?_;refine Y0<|Aj<|Ct<|Ys<|Aj<|AWp.block<|Y1<|Wm ?_;refine Wq EK ?_;refine Wq Az ?_;refine Wa<|Wa<|Y0<|Aj<|Y1 ?_;refine Wq Bg ?_;refine Wm ?_;refine Wq (BC (W)) ?_;refine Wq Jy ?_;refine Wm ?_;refine Wg CS ?_;refine Wg (BC (U)) ?_;refine Wg CS ?_;refine Wg AR ?_;refine Wq CE ?_;refine Y0<|Cf<|Ys<|Aj<|Y1<|Wm ?_;refine Wq (BC (H)) ?_;refine Wm ?_;refine Wq (BC (J)) ?_;refine Wq Jy ?_;refine Y0<|Cf<|Ys<|Y1<|Wm ?_;refine Wq AZ ?_;refine Wm ?_;refine Wg CS ?_;refine Wg CS ?_;refine Wg (LI (ao rfl) (ao rfl) Zbx Zbx) ?_;refine Wg EK ?_;refine Wg Az ?_;refine Wg CS ?_;refine Wg (BC (v)) ?_;refine Wg AZ ?_;refine Wq EC ?_;refine Y0<|Ct<|Y1<|Wa<|Y0<|BG<|Dz<|Di<|RE<|Dz<|Di ?_
         exact Yf
      .rw [decide_eq_false K]at J
       rw[decide_eq_false λh=>K (X.1 (b h).1).2];exact ZeE
     .rw [decide_eq_false λh=>V (X.1 (b h).1).1]
      exact ZeE
    .rw [decide_eq_false E]at W
     subst t;rw[decide_eq_false λh=>E (b h).1.1];exact ZeE
   .obtain rfl:k=l.length:=by omega
    rw[decide_eq_true (show Lu (m:Nat) r l from⟨o,d⟩)];exact ZeE
 .rw [decide_eq_false λh:Lu (m:Nat) r l=>o h.1]
  refine Ab Tryz.func152 λN=>?_;rw[Tryz.ntmps152];exact ZeE
open Classical
theorem A5V{P:(List RTm)->Prop}{F:D}(T:TypeId)(L:List (List RTm))(hF:∀x∈L,FnAbs Tryz.prog F [IU x] (ex (.bool (decide (P x)))))(A:L.length<=40000):Abs Tryz.prog 300 [slD T 1 (L.map λp=>[IU p]),F] (ex (.bool (decide (∀x∈L,P x)))):=by
 refine Ab Tryz.func300 λE=>?_;rw[Tryz.ntmps300];refine Go ?_;refine AE (λI f=>∃k,k<=L.length/\I=L.length-k/\(∀j,j<k->P (L.getD j default))/\f=⟨[(1,.d F),(7,.d (slD T 1 (L.map λp=>[IU p]))),(8,.d (ex (.int .i64 (L.length:Nat)))),(9,.d (ex (.int .i64 (k:Nat))))],[]⟩) ?le ⟨0,by omega,rfl,λj i=>absurd i (Nat.not_lt_zero j),rfl⟩ ?round
 case le=>exact ZhA
 case round=>
  exact Zbe
theorem A5U{P:(List RQ)->Prop}{F:D}(T:TypeId)(L:List (List RQ))(hF:∀x∈L,FnAbs Tryz.prog F [Kf x] (ex (.bool (decide (P x)))))(A:L.length<=40000):Abs Tryz.prog 253 [slD T 1 (L.map λp=>[Kf p]),F] (ex (.bool (decide (∀x∈L,P x)))):=by
 refine Ab Tryz.func253 λE=>?_;rw[Tryz.ntmps253];refine Go ?_;refine AE (λI f=>∃k,k<=L.length/\I=L.length-k/\(∀j,j<k->P (L.getD j default))/\f=⟨[(1,.d F),(7,.d (slD T 1 (L.map λp=>[Kf p]))),(8,.d (ex (.int .i64 (L.length:Nat)))),(9,.d (ex (.int .i64 (k:Nat))))],[]⟩) ?le ⟨0,by omega,rfl,λj i=>absurd i (Nat.not_lt_zero j),rfl⟩ ?round
 case le=>exact ZhA
 case round=>
  exact Zbe
def ofQ(q:Rat):RQ:=⟨decide (q.num<0),Ao q.num.natAbs,decide ((q.den:Int)<0),Ao (q.den:Int).natAbs⟩
def VZ(a:RQ×RQ):Prop:=QZ a.1/\QZ a.2
theorem Qy(k:Cor)(A:CZ k):Abs Tryz.prog 76 [AL (FI k)] (ex (.bool (decide (PX k)))):=by
 obtain⟨n,e,f⟩:=k;by_cases u:1<=n
 .by_cases V:n<=4
  .obtain ⟨m, rfl⟩:∃m:Nat, n=(m:Int):=⟨n.toNat, by omega⟩
   have p:=Oi m ⟨by omega,by omega⟩ e f e 0 A.e;have C:=Oi m ⟨by omega,by omega⟩ e f f 1 A.f;by_cases b:Lu (m:Nat) 0 e
   .rw [decide_eq_true b]at p
    by_cases M:Lu (m:Nat) 1 f
    .rw [decide_eq_true M]at C
     rw[decide_eq_true (show PX ⟨(m:Nat),e,f⟩from⟨u,V,b,M⟩)];exact Zgd
    .rw [decide_eq_false M]at C
     rw[decide_eq_false λh:PX ⟨(m:Nat),e,f⟩=>M h.2.2.2];exact Zgd
   .rw [decide_eq_false b]at p
    rw[decide_eq_false λh:PX ⟨(m:Nat),e,f⟩=>b h.2.2.1];exact Zgd
  .rw [decide_eq_false λh:PX ⟨n,e,f⟩=>V h.2.1]
   exact Zgd
 .rw [decide_eq_false λh:PX ⟨n,e,f⟩=>u h.1]
  exact Zgd
theorem Rr(k:Cor)(u:CZ k):Abs Tryz.prog 32 [AL (FI k)] (ex (.bool (decide (PX k)))):=by
 refine Ab Tryz.func32 λA=>?_;rw[Tryz.ntmps32];have I:=Qy k u;exact ZeE
def NV(k:Cor):Prop:=1<=k.n/\k.n<=4
theorem XZ(k:Cor)(B:NV k)(p:List RTm)(d:Int)(F:PZ p):Abs Tryz.prog 154 [AL (FI k),IU p,ex (.int .i64 d)] (ex (.bool (decide (BdP k.n d p)))):=by
 obtain⟨n,e,f⟩:=k;obtain⟨m,rfl⟩:∃m:Nat,n=(m:Int):=⟨n.toNat,by have:=B.1;have:1<=n:=this;omega⟩;exact Nf m ⟨by have:=B.1;have:1<=((m:Nat):Int):=this;omega,by have:=B.2;have:((m:Nat):Int)<=4:=this;omega⟩ e f p d F
theorem A2S(k:Cor)(B:NV k)(p:List RTm)(F:PZ p):Abs Tryz.prog 254 [AL (FI k),IU p] (ex (.bool (decide (BdP k.n 64 p)))):=by
 refine Ab Tryz.func254 λA=>?_;rw[Tryz.ntmps254];have u:=XZ k B p 64 F;exact ZeE
def A1Z(n:Int)(l:List (List RTm)):Prop:=∀p∈l,BdP n 64 p
theorem A16(k:Cor)(B:NV k)(l:List (List RTm))(u:LZ PZ l):Abs Tryz.prog 246 [AL (FI k),HU l] (ex (.bool (decide (A1Z k.n l)))):=by
 have p:=A5V (P:=BdP k.n 64) (F:=fvD 254 [AL (FI k)] []) 28 l (λx C=>A1Y (A2S k B x (u.e x C))) u.n;refine Ab Tryz.func246 λA=>?_;rw[Tryz.ntmps246];refine Go ?_;refine Wq (A4X ZcM (by exact ArgsLe.nil)) ?_;refine Go ?_;exact Aq (Ak (ResV.tmp rfl rfl) (Af (congrArg (λb=>ex (.bool b)) (decide_eq_decide.2 Iff.rfl))))
def SZ(s:RQ×List RTm):Prop:=QZ s.1/\PZ s.2
structure RZ(r:Rsl):Prop where
 l:Gu IW r.l
 q:LZ QZ r.q
 r:Gu (LZ QZ) r.r
theorem A6m{f:Nat->j}{x:j}(h:x∈[f 0,f 1,f 2,f 3,f 4,f 5,f 6,f 7]):∃i,i<8/\x=f i:=by
 simp only[List.mem_cons,List.not_mem_nil,or_false]at h;rcases h with h | h | h | h | h | h | h | h
 .exact ⟨0,by omega,h⟩
 .exact ⟨1,by omega,h⟩
 .exact ⟨2,by omega,h⟩
 .exact ⟨3,by omega,h⟩
 .exact ⟨4,by omega,h⟩
 .exact ⟨5,by omega,h⟩
 .exact ⟨6,by omega,h⟩
 .exact ⟨7,by omega,h⟩
theorem A5J{f:Nat->j}(h:n<8):f n∈[f 0,f 1,f 2,f 3,f 4,f 5,f 6,f 7]:=by
 match n,h with
 |0,_ |1,_ |2,_ |3,_ |4,_ |5,_ |6,_ |7,_=>simp
def A1o(c:Clm):Bool:=c.kind==0&&c.n==0&&c.d==0&&c.r==0&&((c.p.length:Nat):Int)==0&&((c.o.length:Nat):Int)==0&&((c.l.length:Nat):Int)==0&&((c.s.length:Nat):Int)==0&&((c.b.length:Nat):Int)==0
theorem Zs(c:Clm):Abs Tryz.prog 161 [AL (Ef c)] (ex (.bool (A1o c))):=by
 refine Ab Tryz.func161 λA=>?_;rw[Tryz.ntmps161];apply Y1;refine Bx ?_;refine Wa<|Y0 ?_;refine Cb 0 1 rfl rfl rfl ?_;apply Y1;refine Wq Aw ?_;refine Wq Az ?_;refine Wq BP ?_;refine Wm ?_;refine IY (λW=>Aw) ?_;refine DW 7 rfl (λW=>Az) ?_;refine DW 8 rfl (λW=>BP) ?_;refine Wq Cg ?_;refine Wm ?_;refine IY (λW=>Aw) ?_;refine DW 12 rfl (λW=>Az) ?_;refine DW 13 rfl (λW=>BP) ?_;refine Wq Cg ?_;refine Wm ?_;refine IY (λW=>Aw) ?_;refine DW 17 rfl (λW=>Az) ?_;refine DW 18 rfl (λW=>BP) ?_;refine Wq Cg ?_;refine Wm ?_;refine IY (λW=>Aw) ?_;refine DW 22 rfl (λW=>Az) ?_;refine DW 23 rfl (λW=>Dg) ?_;refine DW 24 rfl (λW=>BP) ?_;refine Wq Cg ?_;refine Wm ?_;refine IY (λW=>Aw) ?_;refine DW 28 rfl (λW=>Az) ?_;refine DW 29 rfl (λW=>Dg) ?_;refine DW 30 rfl (λW=>BP) ?_;refine Wq Cg ?_;refine Wm ?_;refine IY (λW=>Aw) ?_;refine DW 34 rfl (λW=>Az) ?_;refine DW 35 rfl (λW=>Dg) ?_;refine DW 36 rfl (λW=>BP) ?_;refine Wq Cg ?_;refine Wm ?_;refine IY (λW=>Aw) ?_;refine DW 40 rfl (λW=>Az) ?_;refine DW 41 rfl (λW=>Dg) ?_;refine DW 42 rfl (λW=>BP) ?_;refine Wq Cg ?_;refine Wm ?_;refine IY (λW=>Aw) ?_;refine DW 46 rfl (λW=>Az) ?_;refine DW 47 rfl (λW=>Dg) ?_;refine DW 48 rfl (λW=>BP) ?_;refine Wq Cg ?_;refine Wa<|Y0<|BG ?_
 exact Yf
structure ClZ(c:Clm):Prop where
 kind:IW c.kind
 p:PZ c.p
 n:IW c.n
 d:IW c.d
 r:IW c.r
 o:LZ (Gu IW) c.o
 l:LZ PZ c.l
 s:LZ IW c.s
 b:LZ (Gu VZ) c.b
structure CrZ(e:Crt):Prop where
 n:IW e.n
 cof:LZ PZ e.cof
 g:LZ PZ e.g
 o:LZ (Gu IW) e.o
 c:LZ (LZ PZ) e.c
 q:LZ (LZ PZ) e.q
 s:LZ (LZ PZ) e.s
 r:RZ e.r
 a:LZ VZ e.a
 sq:LZ SZ e.sq
 x:LZ (Gu QZ) e.x
 b:LZ (Gu VZ) e.b
def NoU(l:List RQ):Prop:=l.length=0
def NoR(r:Rsl):Prop:=∀i,i<8->NoU (r.r i)
theorem Rh(l:List RQ):Abs Tryz.prog 257 [Kf l] (ex (.bool (decide (NoU l)))):=by
 refine Ab Tryz.func257 λA=>?_;rw[Tryz.ntmps257];refine Go ?_;exact Aq (Ak (ResV.tmp rfl rfl) (Af (congrArg (λb=>ex (.bool b)) (by rw[Bool.eq_iff_iff];simp[NoU]))))
def no8:Nat->Int:=λ_=>0
noncomputable def VU (e:Crt):Bool:=e.n==0&&((e.cof.length:Nat):Int)==0&&((e.g.length:Nat):Int)==0&&((e.o.length:Nat):Int)==0&&((e.c.length:Nat):Int)==0&&((e.q.length:Nat):Int)==0&&((e.s.length:Nat):Int)==0&&Na e.r.l no8&&decide (NoU e.r.q)&&decide (NoR e.r)&&((e.a.length:Nat):Int)==0&&((e.sq.length:Nat):Int)==0&&((e.x.length:Nat):Int)==0&&((e.b.length:Nat):Int)==0
theorem VT(e:Crt):Abs Tryz.prog 177 [AL (Ea e)] (ex (.bool (VU e))):=by
 have p:=Rh e.r.q;have u:=A5U (P:=NoU) (F:=ex (.func (.func 257) #[] #[])) 46 [e.r.r 0,e.r.r 1,e.r.r 2,e.r.r 3,e.r.r 4,e.r.r 5,e.r.r 6,e.r.r 7] (λx _=>FnAbs.ex (Rh x)) ZbK;have B:=u.le (r':=ex (.bool (decide (NoR e.r)))) (Af (congrArg (λb=>ex (.bool b)) (decide_eq_decide.2 ⟨λh i K=>h _ (A5J K),λh x C=>by obtain⟨i,K,rfl⟩:=A6m C;exact h i K⟩)));refine Ab Tryz.func177 λA=>?_;rw[Tryz.ntmps177];apply Y1;refine Bx ?_;refine Wa<|Y0 ?_;refine Cb 0 1 rfl rfl rfl ?_;refine Y1<|Wa<|Y0<|Y1 ?_;refine Wq Aw ?_;refine Wq Az ?_;refine Wq BP ?_;refine Wm ?_;refine IY (λW=>Aw) ?_;refine DW 8 rfl (λW=>Az) ?_;refine DW 9 rfl (λW=>Dg) ?_;refine DW 10 rfl (λW=>BP) ?_;refine Wq Cg ?_;refine Wm ?_;refine IY (λW=>Aw) ?_;refine DW 14 rfl (λW=>Az) ?_;refine DW 15 rfl (λW=>Dg) ?_;refine DW 16 rfl (λW=>BP) ?_;refine Wq Cg ?_;refine Wm ?_;refine IY (λW=>Aw) ?_;refine DW 20 rfl (λW=>Az) ?_;refine DW 21 rfl (λW=>Dg) ?_;refine DW 22 rfl (λW=>BP) ?_;refine Wq Cg ?_;refine Wm ?_;refine IY (λW=>Aw) ?_;refine DW 26 rfl (λW=>Az) ?_;refine DW 27 rfl (λW=>Dg) ?_;refine DW 28 rfl (λW=>BP) ?_;refine Wq Cg ?_;refine Wm ?_;refine IY (λW=>Aw) ?_;refine DW 32 rfl (λW=>Az) ?_;refine DW 33 rfl (λW=>Dg) ?_;refine DW 34 rfl (λW=>BP) ?_;refine Wq Cg ?_;refine Wm ?_;refine IY (λW=>Aw) ?_;refine DW 38 rfl (λW=>Az) ?_;refine DW 39 rfl (λW=>Dg) ?_;refine DW 40 rfl (λW=>BP) ?_;refine Wq Cg ?_;refine Wm ?_;refine IY (λW=>Aw) ?_;refine DW 44 rfl (λW=>Aw) ?_;refine DW 45 rfl (λW=>Wt) ?_;refine IY (λW=>AI (by refine ME (Aa rfl) (Aa rfl) rfl rfl ?_;refine⟨_,rfl,?_⟩;rfl)) ?_;refine Wu2 46 rfl 47 rfl (λW=>A1G (a:=e.r.l) (b:=no8) (ao rfl) (ao rfl)) ?_;refine Wq Cg ?_;refine Wm ?_;refine IY (λW=>CS) ?_;refine IY (λW=>Aw) ?_;refine DW 52 rfl (λW=>Aw) ?_;refine DW 53 rfl (λW=>Az) ?_;refine Wu2 51 rfl 54 rfl (λW=>JD (ao rfl) (FnAbs.ex p) ZcM) ?_;refine Wq Cg ?_;refine Wm ?_;refine IY (λW=>Aw) ?_;refine DW 58 rfl (λW=>Aw) ?_;refine DW 59 rfl (λW=>A4V (ao rfl) (Aa rfl) (Aa rfl) rfl Zbx) ?_;refine IY (λW=>CS) ?_;refine Wu2 60 rfl 61 rfl (λW=>BC (B)) ?_;refine Wq Cg ?_;refine Wm ?_;refine IY (λW=>Aw) ?_;refine DW 65 rfl (λW=>Az) ?_;refine DW 66 rfl (λW=>Dg) ?_;refine DW 67 rfl (λW=>BP) ?_;refine Wq Cg ?_;refine Wm ?_;refine IY (λW=>Aw) ?_;refine DW 71 rfl (λW=>Az) ?_;refine DW 72 rfl (λW=>Dg) ?_;refine DW 73 rfl (λW=>BP) ?_;refine Wq Cg ?_;refine Wm ?_;refine IY (λW=>Aw) ?_;refine DW 77 rfl (λW=>Az) ?_;refine DW 78 rfl (λW=>Dg) ?_;refine DW 79 rfl (λW=>BP) ?_;refine Wq Cg ?_;refine Wm ?_;refine IY (λW=>Aw) ?_;refine DW 83 rfl (λW=>Az) ?_;refine DW 84 rfl (λW=>Dg) ?_;refine DW 85 rfl (λW=>BP) ?_;refine Wq Cg ?_;refine Wa<|Y0<|BG ?_
 exact Yf
noncomputable def A4I (k:Cor) (e:Crt):Bool:=(((e.cof.length:Nat):Int)==((k.e.length:Nat):Int))&&decide (A1Z k.n e.cof)
theorem A35(k:Cor)(c:Clm)(e:Crt)(B:NV k)(a:CrZ e):Abs Tryz.prog 166 [AL (EN ⟨k,c,e⟩)] (ex (.bool (A4I k e))):=by
 have p:=A16 k B e.cof a.cof;refine Ab Tryz.func166 λA=>?_;rw[Tryz.ntmps166];apply Y1;refine Bx ?_;refine Wa<|Y0 ?_;refine Cb 0 1 rfl rfl rfl ?_;apply Y1;refine Wq Aw ?_;refine Wq Aw ?_;refine Wq Az ?_;refine Wq Dg ?_;refine Wq Aw ?_;refine Wq Aw ?_;refine Wq Aw ?_;refine Wq Aw ?_;refine Wq Az ?_;refine Wq Dg ?_;refine Wq BP ?_;refine Wm ?_;refine IY (λW=>Aw) ?_;refine DW 15 rfl (λW=>Aw) ?_;refine DW 16 rfl (λW=>Wt) ?_;refine IY (λW=>Aw) ?_;refine DW 18 rfl (λW=>Aw) ?_;refine DW 19 rfl (λW=>Az) ?_;refine Wu2 17 rfl 20 rfl (λW=>BC (p)) ?_;refine Wq Cg ?_;refine Wa<|Y0<|BG ?_
 exact Yf
structure FZ(f:Fct):Prop where
 k:CZ f.k
 c:ClZ f.c
 e:CrZ f.e
theorem WZ.sm{l:List Nat}(h:WZ l):SmW l:=⟨h.s,by have:=h.n;omega⟩
theorem QZ.qb{q:RQ}(h:QZ q):QB q:=⟨h.n.sm,h.d.sm⟩
theorem PZ.pw(h:PZ uy):PoW uy:=λt M=>⟨(h.t t M).n.sm,(h.t t M).d.sm⟩
theorem VZ.vw{a:RQ×RQ}(h:VZ a):VW a:=⟨h.1.qb,h.2.qb⟩
theorem CZ.cw{k:Cor}(h:CZ k):CoW k:=⟨h.n,λp F=>(h.e.e p F).pw,λp F=>(h.f.e p F).pw⟩
theorem ClZ.cw{c:Clm}(h:ClZ c):ClW c:=⟨h.kind,h.p.pw,h.n,h.d,h.r,h.o.e,λp F=>(h.l.e p F).pw,h.s.e,λx C i K=>(h.b.e x C i K).vw⟩
theorem CrZ.cw{e:Crt}(h:CrZ e):CrW e:=⟨h.n,λp F=>(h.cof.e p F).pw,λp F=>(h.g.e p F).pw,h.o.e,λt M l L=>((h.c.e t M).e l L).pw,λt M l L=>((h.q.e t M).e l L).pw,λt M l L=>((h.s.e t M).e l L).pw,⟨h.r.l,λq z=>(h.r.q.e q z).qb,λi K q z=>((h.r.r i K).e q z).qb⟩,λx C=>(h.a.e x C).vw,λx C=>⟨(h.sq.e x C).1.qb,(h.sq.e x C).2.pw⟩,λx C i K=>(h.x.e x C i K).qb,λx C i K=>(h.b.e x C i K).vw⟩
theorem FZ.fw{f:Fct}(h:FZ f):FW f:=⟨h.k.cw,h.c.cw,h.e.cw⟩
noncomputable def A2P (k:Cor):List Nat:=if PX k then FA k else[]
theorem A3o(k:Cor)(u:CZ k)(L:(FA k).length<=1000000000000):Abs Tryz.prog 20 [AL (FI k)] (Yy (A2P k)):=by
 have p:=Rr k u;by_cases h:PX k
 .rw [decide_eq_true h]at p
  have B:=XT k u.cw [] (by simpa using L);rw[A2P,if_pos h];refine Ab Tryz.func20 λA=>?_;rw[Tryz.ntmps20];apply Y1;refine Bx ?_;refine Wa<|Y0<|Aj<|Y1 ?_;refine Wq Bg ?_;refine Wq (BC (p)) ?_;refine Wq Jy ?_;refine Y0<|Cf<|Ys<|Y1 ?_;refine Al ?_;refine Y0<|Y1 ?_;refine Wq Bg ?_
  refine Ba (KS 1 0 5 1 rfl rfl ZbA Zbx rfl rfl rfl rfl) ?_;refine AF [1,2] [] [] (B) Zbs rfl rfl Zbu Zbt ZbA Zbr Zbw trivial rfl ?_;rintro _ _ ⟨rfl,rfl⟩;refine ZeL ?_;refine Wq (Gi (l:=FA k) rfl (Aa rfl) (Aa rfl) (Aa rfl)) ?_;exact ZeE
 .rw [decide_eq_false h]at p
  rw[A2P,if_neg h];refine Ab Tryz.func20 λA=>?_;rw[Tryz.ntmps20];exact ZeE
def Zt(kind:Int)(p:List RTm)(o:List (Nat->Int)):List Nat:=(Bc kind++Co p)++Cc o
theorem A3r(kind:Int)(p:List RTm)(o:List (Nat->Int))(B:IW kind)(F:PoW p)(n:Ew (Gu IW) o)(L:(Zt kind p o).length<=1000000000000):Abs Tryz.prog 21 [AL [ex (.int .i64 kind),IU p,EZ o]] (Yy (Zt kind p o)):=by
 simp only[Zt,List.length_append]at L;have u:=EF kind B [] ZgC;have h:=NE p F (Bc kind) Zbx;have b:=OC o n (Bc kind++Co p) Zdd;refine Ab Tryz.func21 λA=>?_;rw[Tryz.ntmps21];apply Y1;refine Bx ?_;refine Wa<|Y0<|Y1 ?_;refine Al ?_;refine Y0<|Y1 ?_;refine Wq AH ?_;refine Wq AM ?_
 refine Ba (KS 1 0 5 1 rfl rfl ZbA Zbx rfl rfl rfl rfl) ?_;refine AF [1,2] [] [] (u) Zbs rfl rfl Zbu Zbt ZbA Zbr Zbw trivial rfl ?_;rintro _ _ ⟨rfl,rfl⟩;refine ZeL ?_;refine AF [1,2] [] [] (h) Zbs rfl rfl Zbu Zbt ZbA Zbr Zbw trivial rfl ?_;rintro _ _ ⟨rfl,rfl⟩;refine ZeL ?_;refine AF [1,2] [] [] (b) Zbs rfl rfl Zbu Zbt ZbA Zbr Zbw trivial rfl ?_;rintro _ _ ⟨rfl,rfl⟩;refine ZeL ?_;refine Wq (Gi (l:=Zt kind p o) rfl (Aa rfl) (Aa rfl) (Aa rfl)) ?_;exact ZeE
abbrev rwD(T:Nat)(L:List (Nat×List (Nat->Int))):D:=slD T 1 (L.map λx=>[r5D x.1 x.2])
def Rw8(L:List (Nat×List (Nat->Int))):Prop:=∀x∈L,ZE x.2
abbrev i8D(T:Nat)(V:List Int):D:=slD T 1 (V.map λz=>[ex (.int .i8 z)])
def I8(V:List Int):Prop:=∀z∈V,-128<=z/\z<=127
def KA(Q:List (List Tm)):D:=slD 28 1 (Q.map λP=>[Cd P])
theorem XB(Q:List (List Tm)):KA Q=HU (Q.map λP=>P.map Em):=by
 unfold KA HU;rw[List.map_map];congr 1;exact List.map_congr_left λP _=>by rw[JI];rfl
def LY(L:List (Nat×List (Nat->Int)))(k:Nat):List (List Tm):=(L.take k).map λx=>XJ x.2 2 2 3
abbrev Ho(L:List (Nat×List (Nat->Int))):List (List Tm):=LY L (min L.length 6)
def Bw(V:List Int)(k:Nat):Int:=if V.length=0 then 0 else V.getD (k%V.length) default
theorem Fm{V:List Int}(h:I8 V)(k:Nat):-128<=Bw V k/\Bw V k<=127:=by
 unfold Bw;split
 .omega
 .rename_i g
  have L:k%V.length<V.length:=Nat.mod_lt _ Zbx;rw[List.getD_eq_getElem?_getD,List.getElem?_eq_getElem L];exact h _ (List.getElem_mem _)
theorem FX(T:Nat)(V:List Int)(f:I8 V)(k:Nat)(B:k<=1000000)(L:V.length<=9223372036854775807):Abs Tryz.prog 60 [i8D T V,ex (.int .i64 (k:Nat))] (ex (.int .i64 (Bw V k))):=by
 by_cases g:V.length=0
 .refine Ab Tryz.func60 λA=>?_
  rw[Tryz.ntmps60];refine Go ?_;exact Aq (Ak (ResV.tmp rfl rfl) (Af (by rw[Bw,if_pos g])))
 .have Q:k%V.length<V.length:=Nat.mod_lt _ Zbx
  have u:=Fm f k;rw[Bw,if_neg g]at u;refine Ab Tryz.func60 λA=>?_;rw[Tryz.ntmps60];refine Y1<|Wa<|Y0<|Aj<|Y1<|Wm ?_;refine Wq Dg ?_;refine Wq AR ?_;refine Y0<|Cf<|Ys<|Y1<|Wm<|Wm<|Wm ?_;refine Wq Dg ?_;refine Wq A1B ?_;refine Wq EK ?_;refine Wq Az ?_;refine Wq (FN (ao rfl) (Aa rfl) (Aa rfl) ZbW ZbW) ?_;refine Wa<|Y0<|BG ?_
  exact Aq (Ak (ResV.tmp rfl rfl) (Af (by simp only[Int.natAbs_natCast];rw[Bw,if_neg g])))
theorem Jh(Q:List (List Tm))(i n:Nat)(K:i<=100000)(h:n<=100000)(L:Q.length<=9223372036854775807):Abs Tryz.prog 62 [KA Q,ex (.int .i64 (i:Nat)),ex (.int .i64 (n:Nat))] (KA ((List.range n).map λj=>if Q.length=0 then[]else Q.getD ((i+j)%Q.length) default)):=by
 obtain⟨F,hF⟩:∃F:Nat->List Tm,F=λj=>if Q.length=0 then[]else Q.getD ((i+j)%Q.length) default:=⟨_,rfl⟩
 rw[<-hF];have E:∀k,(List.range (k+1)).map F=(List.range k).map F++[F k]:=λk=>by rw[List.range_succ,List.map_append];rfl
 refine Ab Tryz.func62 λA=>?_;rw[Tryz.ntmps62];refine Go ?_;refine AE (λC f=>∃k,k<=n/\C=n-k/\f=⟨[(0,.d (KA Q)),(1,.d (ex (.int .i64 (i:Nat)))),(2,.d (ex (.int .i64 (n:Nat)))),(7,.own 0),(8,.d (ex (.int .i64 (k:Nat))))],[.row 28 1 (((List.range k).map F).map λP=>[Cd P])]⟩) ?le ⟨0,by omega,rfl,rfl⟩ ?round
 case le=>exact Ac ZcP Zdm
 case round=>
  rintro C _ ⟨k,B,rfl,rfl⟩;by_cases u:k<n
  .by_cases g:Q.length=0
   .have p:F k=[]:=by rw [hF];exact if_pos g
    refine Aj<|Y1<|Wm<|Wm ?_;refine Wq AZ ?_;refine Y0<|Ct<|Ys<|Aj<|AWp.block<|Y1<|Wm ?_;refine Wq Dg ?_;refine Wq AZ ?_;refine Y0<|Ct<|AWp.region<|Wm ?_;refine Tc (Aa rfl) (Aa rfl) rfl rfl rfl rfl rfl ?_
    refine Ba (σ':=⟨[(19,.d (Cd [])),(18,.own 0),(0,.d (KA Q)),(1,.d (ex (.int .i64 (i:Nat)))),(2,.d (ex (.int .i64 (n:Nat)))),(8,.d (ex (.int .i64 (k:Nat))))],[.row 28 1 (((List.range k).map F).map λP=>[Cd P])]⟩) ?wk ?_
    case wk=>exact Ac (by exact FrLe.cons rfl (MJ rfl (D.le.refl _))<|FrLe.cons rfl (AVle.own rfl)<|Yd<|Yd<|Yd<|Yd<|FrLe.nil) Zdm
    refine Go ?_;refine Am (n-(k+1)) Zbx ⟨k+1,by omega,rfl,rfl⟩ ?_;exact Ac ZcP (by(refine HpLe.cons (OwLe.row (by rw[E,List.map_append,p];rfl)) ?_);exact HpLe.nil)
   .have p:F k=Q.getD ((i+k)%Q.length) default:=by rw [hF];exact if_neg g
    have G:(i+k)%Q.length<Q.length:=Nat.mod_lt _ Zbx;refine Go ?_;refine Am (n-(k+1)) Zbx ⟨k+1,by omega,rfl,rfl⟩ ?_;exact Ac ZcP (by(refine HpLe.cons (OwLe.row (by rw[E,List.map_append,p];simp only[Int.natAbs_natCast];rfl)) ?_);exact HpLe.nil)
  .obtain rfl:k=n:=by omega
   exact ZeE
theorem PR(T:Nat)(L:List (Nat×List (Nat->Int)))(O:Rw8 L):Abs Tryz.prog 59 [rwD T L,ex (.int .i64 (2:Nat)),ex (.int .i64 2),ex (.int .i64 (3:Nat)),ex (.int .i64 (6:Nat))] (KA (Ho L)):=by
 have g:∀k,k<L.length->LY L (k+1)=LY L k++[XJ (L.getD k default).2 2 2 3]:=λk B=>by
  unfold LY;rw[List.take_add_one,List.map_append,List.getD_eq_getElem?_getD,List.getElem?_eq_getElem B];rfl
 refine Ab Tryz.func59 λA=>?_;rw[Tryz.ntmps59];refine Go ?_;refine AE (λC f=>∃k,k<=min L.length 6/\C=min L.length 6-k/\f=⟨[(0,.d (rwD T L)),(1,.d (ex (.int .i64 (2:Nat)))),(2,.d (ex (.int .i64 2))),(3,.d (ex (.int .i64 (3:Nat)))),(4,.d (ex (.int .i64 (6:Nat)))),(11,.own 0),(12,.d (ex (.int .i64 (k:Nat))))],[.row 28 1 ((LY L k).map λP=>[Cd P])]⟩) ?le ⟨0,by omega,rfl,rfl⟩ ?round
 case le=>exact Ac Zdx Zdm
 case round=>
  rintro C _ ⟨k,B,rfl,rfl⟩;by_cases Q:k<min L.length 6
  .have K:k<L.length:=by omega
   have Y:ZE (L.getD k default).2:=O _ (by rw[List.getD_eq_getElem?_getD,List.getElem?_eq_getElem K];exact List.getElem_mem _);have b:=ZG (L.getD k default).1 (L.getD k default).2 2 3 2 Y Zbx Zbx Zbx Zbx;have u:=g k K;have o:(LY L k).length=min k L.length:=by simp[LY]
   refine Go ?_;refine Am (min L.length 6-(k+1)) Zbx ⟨k+1,by omega,rfl,rfl⟩ ?_;exact Ac Zdx (by(refine HpLe.cons (OwLe.row (by rw[u,List.map_append];rfl)) ?_);exact HpLe.nil)
  .by_cases K:k<L.length
   .obtain rfl:k=min L.length 6:=by omega
    exact ZeE
   .obtain rfl:k=min L.length 6:=by omega
    exact ZeE
def A45(l:List Int)(j:Nat):Int:=l.getD j 0
def IT(z:Nat):List (Nat->Int):=
 if z%8=0 then[]else if z%8=1 then[BH 255]else if z%8=2\/z%8=3 then revRows else if z%8=4 then[A45 [2,3,1,1,1,1,1,1]]else if z%8=5 then[A45 [1,1,0,0,0,0,0,0],A45 [1,0,2,1,1,1,1,1]]else BH (z/8%16)::revRows
theorem A3U(h:n<256):IntKind.u8.wrap (n:Int)=n:=by
 exact Zfj
theorem A5v(z:Nat)(u:z<256):IntKind.u8.wrap (((z:Nat):Int).tdiv 8)=((z/8:Nat):Int):=by
 rw[show((z:Nat):Int).tdiv 8=((z/8:Nat):Int)by rw[Int.tdiv_eq_ediv_of_nonneg Zbx];omega];exact A3U Zbx
theorem ZF(z:Nat)(B:z<256):Abs Tryz.prog 63 [ex (.int .u8 (z:Nat))] (EZ (IT z)):=by
 have h:=Ms (z/8%16) Zbx;refine Ab Tryz.func63 λC=>?_;rw[Tryz.ntmps63];by_cases g:z%8=0
 .have E:=A1z;refine Go ?_
  exact Aq (Ak (ResV.tmp rfl rfl) (Af (by simp[IT,g])))
 by_cases u:z%8=1
 .have k:=UJ;refine Go ?_
  exact Aq (Ak (ResV.tmp rfl rfl) (Af (by simp[IT,u])))
 by_cases A:z%8=2
 .have O:=Lz;refine Go ?_
  exact Aq (Ak (ResV.tmp rfl rfl) (Af (by simp[IT,A])))
 by_cases I:z%8=3
 .refine Y1<|Wa<|Y0<|Aj<|Y1<|Wm ?_;refine Wq A1B ?_;refine Y0<|AWp.block<|Y1 ?_;refine Wq AR ?_;refine Wa<|Y0<|Cf<|Y1 ?_;refine Wq AR ?_;refine Wa<|Y0<|Cf<|Aj<|Y1 ?_;refine Wq AR ?_;refine Wa<|Y0<|Cf<|AWp.region ?_;refine Wq AZ ?_;refine Wa<|Y0<|Ct<|Y1 ?_;refine Wq (BC (Lz)) ?_;refine Wa<|Y0<|BG<|Dz<|Di ?_
  exact Aq (Ak (ResV.tmp rfl rfl) (Af (by simp[IT,I])))
 by_cases V:z%8=4
 .refine Go ?_
  exact Aq (Ak (ResV.tmp rfl rfl) (Af (by simp only[IT,V];rfl)))
 by_cases m:z%8=5
 .refine Go ?_
  exact Aq (Ak (ResV.tmp rfl rfl) (Af (by simp only[IT,m];rfl)))
 refine Go ?_;refine Wq (HF (ao rfl) (ao rfl) ZbA (A5v z B)) ?_;refine Go ?_;exact Aq (Ak (ResV.tmp rfl rfl) (Af (by simp[IT,g,u,A,I,V,m])))
theorem Gg(a:Int){j:Nat}(i:j<=7):IntKind.i64.wrap (((BitVec.ofInt 64 a &&& BitVec.ofInt 64 ((2^j-1:Nat):Int)).toNat:Nat):Int)=a%((2^j:Nat):Int):=by
 have u:(BitVec.ofInt 64 ((2^j-1:Nat):Int)).toNat=2^j-1:=by
  rcases(show j=0\/j=1\/j=2\/j=3\/j=4\/j=5\/j=6\/j=7 by omega)with rfl | rfl | rfl | rfl | rfl | rfl | rfl | rfl<;>rfl
 rw[BitVec.toNat_and,u,BitVec.toNat_ofInt,Nat.and_two_pow_sub_one_eq_mod]
 have A:∀x:Nat,x<128->IntKind.i64.wrap (x:Int)=x:=λx C=>by
  exact Zfj
 rcases(show j=0\/j=1\/j=2\/j=3\/j=4\/j=5\/j=6\/j=7 by omega)with rfl | rfl | rfl | rfl | rfl | rfl | rfl | rfl<;>(rw[A _ Zbx];omega)
section
variable {P:Program} {hp:List Ow} {arg:Operand->AV} {dd:Option Tmp} {ty:TypeId} {ps:String} {af:Array Edge} {gd:Option (Nat×Bool)} {T U:TypeId} {x y:Operand} {a b r:Int} {k:IntKind}
theorem HG(C:arg x=.d (ex (.int k a)))(N:arg y=.d (ex (.int k b)))(Y:k.wrap ((BitVec.ofInt k.bits a &&& BitVec.ofInt k.bits b).toNat)=r):Quiet P hp ⟨dd,.binOp .and T x y U,ty,ps,af,gd⟩ arg (.d (ex (.int k r))):=
 Cu rfl C N λw=>by
  simp only[eqGuard,binOp,Op.intBits,Y];simp[Y]
theorem DO(j:Nat)(C:arg x=.d (ex (.int .i64 a)))(N:arg y=.d (ex (.int .i64 ((2^j-1:Nat):Int))))(i:j<=7):Quiet P hp ⟨dd,.binOp .and T x y U,ty,ps,af,gd⟩ arg (.d (ex (.int .i64 (a%((2^j:Nat):Int))))):=
 HG C N (Gg a i)
end
theorem Oy(n d:Int)(u:-128<=n)(A:n<=127)(I:0<d)(V:d<=127):Abs Tryz.prog 113 [AL [ex (.int .i8 n),ex (.int .i8 d),ex (.int .u8 0)]] (AL (Fx (Rat.divInt n d))):=by
 have y:(Ao n.natAbs).length<=1:=by simpa using(Ix (x:=n) Zbx Zbx).1
 have z:(Ao d.natAbs).length<=1:=by simpa using(Ix (x:=d) Zbx Zbx).1
 have h:=Lw n Zbx Zbx;have b:=Lw d Zbx Zbx;have g:=Lw 4611686018427387904 ZbA ZbA;have r:=PG n d Zbx Zbx Zbx;refine Ab Tryz.func113 λB=>?_;rw[Tryz.ntmps113];refine Go ?_;refine Dy 10 ?_;exact ZgX
theorem A1d(g:-128<=a)(u:a<=127):IntKind.i8.wrap a=a:=by
 exact Zfj
theorem A0F{c:j->List D}{x d:Nat->j}:FE (Xj (λi=>c (if i<n then x i else d i)) n (c (x n)))=FE λi=>c (if i<n+1 then x i else d i):=by
 congr 1;funext i;unfold Xj;by_cases h:i=n
 .subst h
  simp
 .by_cases u:i<n
  .simp [h,u,show i<n+1 by omega]
  .simp [h,u,show¬i<n+1 by omega]
theorem XS{n d:Int}(u:-128<=n)(A:n<=127)(I:0<d)(V:d<=127):RSz (Rat.divInt n d) 2:=by
 rw[Rat.divInt_eq_div,Rat.div_def]
 exact RSz.mul (Ix (x := n) Zbx Zbx : RSz ((n : Int) : Rat) 1) (A3j (Ix (x := d) Zbx Zbx : RSz ((d : Int) : Rat) 1) (by
  show(d:Rat).num≠0;rw[Rat.num_intCast];omega))
abbrev zI:RQ×RQ:=(ofQ ((0:Int):Rat),ofQ ((0:Int):Rat))
def loB(V:List Int)(k i:Nat):Rat:=Rat.divInt (Bw V (k+i)) 3
def wiB(V:List Int)(k:Nat):Rat:=Rat.divInt (Bw V k%8) 2
def ivB(V:List Int)(k i:Nat):RQ×RQ:=(ofQ (loB V k i),ofQ (loB V k i+wiB V k))
def Mq(V:List Int)(k:Nat)(i:Nat):RQ×RQ:=if i<2 then ivB V k i else zI
theorem UH(T:Nat)(V:List Int)(E:I8 V)(L:V.length<=9223372036854775807)(m:Nat)(s:m<=1000):Abs Tryz.prog 64 [i8D T V,ex (.int .i64 (m:Nat))] (AL (DB (Mq V m))):=by
 have H:=FY 0 ZbA ZbA;have u:=Fm E m;have J:=FX T V E m Zbx L;have F:=Oy (Bw V m%8) 2 Zbx Zbx Zbx Zbx;refine Ab Tryz.func64 λA=>?_;rw[Tryz.ntmps64];refine Go ?_;refine AE (λC f=>∃k,k<=8/\C=8-k/\f=⟨[(0,.d (i8D T V)),(1,.d (ex (.int .i64 (m:Nat)))),(4,.ptr 0 0),(5,.ptr 1 0),(6,.d (ex (.int .i64 (k:Nat))))],[.var 131 ((DB λ_=>default).map .d),.var 131 ((FE λi=>KT (if i<k then zI else default)).map .d)]⟩) ?le ⟨0,by omega,rfl,rfl⟩ ?round
 case le=>exact Ac ZcY (by exact HpLe.cons (Hk NS)<|HpLe.cons (Hk NS)<|HpLe.nil)
 case round=>
  rintro C _ ⟨k,B,rfl,rfl⟩;by_cases Q:k<8
  .refine Go ?_;refine NR (ao rfl) (ao rfl) rfl (Aa rfl) rfl (IJ (λ_=>rfl) rfl Q) rfl ?_;refine Go ?_
   refine Am (8-(k+1)) Zbx ⟨k+1,by omega,rfl,rfl⟩ ?_;exact Ac ZcY (by apply Yv;refine HpLe.cons (OwLe.varD (A0F (c:=KT) (x:=λ_=>zI) (d:=λ_=>default))) ?_;exact HpLe.nil)
  .obtain rfl:k=8:=by omega
   refine Go ?_;refine AE (λC f=>∃k,k<=2/\C=2-k/\f=⟨[(0,.d (i8D T V)),(1,.d (ex (.int .i64 (m:Nat)))),(4,.ptr 0 0),(5,.ptr 1 0),(7,.d (ex (.int .i64 (k:Nat))))],[.var 131 ((DB λ_=>default).map .d),.var 131 ((FE λi=>KT (if i<k then ivB V m i else zI)).map .d)]⟩) ?le2 ⟨0,by omega,rfl,rfl⟩ ?round2
   case le2=>exact Ac ZcY Zcn
   case round2=>
    rintro C _ ⟨k,B,rfl,rfl⟩;by_cases Q:k<2
    .have z:=Fm E (m+k)
     have j:=FX T V E (m+k) Zbx L;have b:=Oy (Bw V (m+k)) 3 Zbx Zbx Zbx Zbx;have P:=Mh (loB V m k) (wiB V m) 2 2 (XS Zbx Zbx Zbx Zbx) (XS Zbx Zbx Zbx Zbx) Zbx;refine Aj<|Y1<|Wm ?_;refine Wq AZ ?_;refine Y0<|Ct<|Ys<|Aj<|AWp.block<|Y1<|Wm<|Wm<|Wm ?_;refine Wq Wu ?_;refine Wq (BC (j)) ?_;refine Wq (AD (ao rfl) (Aa rfl) (Aa rfl) (A1d Zbx Zbx)) ?_;(refine CA rfl rfl ?_;(refine AP (Aa rfl) rfl rfl rfl ?_;(repeat ((first | refine⟨_,As (ao rfl),?_⟩ | refine⟨_,Po rfl,?_⟩);refine⟨_,rfl,?_⟩));refine⟨_,rfl,?_⟩));refine Wq (BC (b)) ?_;refine Al ?_;refine Sf ?_;apply Y0
     refine Dy 13 ?_;refine CY ?_;refine Xq (DO 3 rfl rfl Zbx) ?_;refine⟨_,HStep.q rfl (AD (ah rfl) (Aa rfl) (Aa rfl) (A1d (a:=Bw V m%8) Zbx Zbx)),?_⟩;refine CY ?_;refine NR (ao rfl) (ao rfl) rfl (Aa rfl) rfl (IJ (i:=k) (v:=KT (ivB V m k)) (λ_=>rfl) rfl Zbx) rfl ?_;refine Zfm ?_;exact Ac ZcY (by apply Yv;refine HpLe.cons (OwLe.varD (A0F (c:=KT) (x:=ivB V m) (d:=λ_=>zI))) ?_;exact HpLe.nil)
    .obtain rfl:k=2:=by omega
     exact ZeH
def Gr(kq kind n r m:Int):Int:=if kq=5 then(if kind=6 then n else 0)else if kq=8\/kq=6 then(if kind=6 then r else if kind=7\/kind=8 then m else if kind=13 then n else 0)else 0
def Fi(kq kind n r m:Int):Int:=if kq=5 then(if kind=6\/kind=12 then n else -1)else if kq=8\/kq=6 then(if kind=6 then r else if kind=7\/kind=8 then m else if kind=9 then 0 else if kind=12 then n else -1)else -1
theorem KM(kq:Int)(q:D)(k:List (Nat->Int))(c:Clm)(E:c.b.length<=1000000) :
  Abs Tryz.prog 25 [AL [ex (.int .i64 kq),q,EZ k],AL (Ef c)] (EX [ex (.int .i64 (Gr kq c.kind c.n c.r (c.b.length:Nat))),ex (.int .i64 (Fi kq c.kind c.n c.r (c.b.length:Nat)))]):=by
 obtain⟨kind,p,n,d,r,o,l,s,b⟩:=c;refine Ab Tryz.func25 λA=>?_;rw[Tryz.ntmps25];refine Go ?_;refine Cb 0 2 rfl rfl rfl ?_;refine Cb 1 3 rfl rfl rfl ?_;refine Go ?_;by_cases h:kq=5
 .subst h
  by_cases J:kind=6
  .exact Zbf
  by_cases u:kind=12
  .exact Zbg
  exact ZfM
 by_cases B:kq=8
 .subst B
  exact Zbh
 by_cases j:kq=6
 .subst j
  exact Zbh
 exact ZfM
theorem VN (a b c d : Int) (w : World) : (do eqGuard .eql 225 x y (.agg #[.int .i64 a, .int .i64 b]) (.agg #[.int .i64 c, .int .i64 d]); binOp .eql 225 (.agg #[.int .i64 a, .int .i64 b]) (.agg #[.int .i64 c, .int .i64 d]) : Sem Value).run Tryz.prog w = .ok (.bool (a == c && b == d)) w := by
 rw [Sem.run_bind,run_eqGuard_agg (hm:=by kernel_rfl),Result.andThen_ok,run_eql_struct,run_equalIn_struct (ht:=by kernel_rfl) (hp:=by kernel_rfl)];have p : (Tryz.prog.fieldsOf 225).toList = [⟨"lo", 3, 0, false, "", "eliminant/claim", 0⟩, ⟨"hi", 3, 1, false, "", "eliminant/claim", 8⟩] := by kernel_rfl
 rw[p];simp[Op.eqFields,go_sem];by_cases u:a=c<;>by_cases A:b=d<;>simp[u,A]
theorem A2F (a b c d e f : Int) (w : World) : (do eqGuard .neq 222 x y (.agg #[.int .i64 a, .int .i64 b, .int .i64 c]) (.agg #[.int .i64 d, .int .i64 e, .int .i64 f]); binOp .neq 222 (.agg #[.int .i64 a, .int .i64 b, .int .i64 c]) (.agg #[.int .i64 d, .int .i64 e, .int .i64 f]) : Sem Value).run Tryz.prog w = .ok (.bool (!(a == d && b == e && c == f))) w := by
 obtain⟨i,K⟩:∃i,Tryz.prog.info? 3=some i:=Option.isSome_iff_exists.1 Zbz;have u:=λW=>run_equalIn_array (P:=Tryz.prog) W 9999 (t:=222) (e:=3) (n:=3) #[.int .i64 a,.int .i64 b,.int .i64 c] #[.int .i64 d,.int .i64 e,.int .i64 f] Zbz K;rw[Sem.run_bind,run_eqGuard_agg (hm:=by kernel_rfl),Result.andThen_ok,run_neq_struct,u];have Y:(List.range 3)=[0,1,2]:=rfl;have k:Tryz.prog.cellsOf 3=1:=by kernel_rfl
 rw[Y,k];simp[Op.eqItems,go_sem];by_cases u:a=d<;>by_cases A:b=e<;>by_cases I:c=f<;>simp[u,A,I]
abbrev in3(a b c:Int):List D:=[ex (.int .i64 a),ex (.int .i64 b),ex (.int .i64 c)]
abbrev in2(a b:Int):List D:=[ex (.int .i64 a),ex (.int .i64 b)]
section
variable {hp:List Ow} {arg:Operand->AV} {dd:Option Tmp} {ty:TypeId} {ps:String} {af:Array Edge} {gd:Option (Nat×Bool)}
theorem ZN(C:arg x=.d (AL (in2 a J)))(N:arg y=.d (AL (in2 vQ vR))):Quiet Tryz.prog hp ⟨dd,.binOp .eql 225 x y t,ty,ps,af,gd⟩ arg (.d (ex (.bool (a==vQ&&J==vR)))):=
 Hg rfl C N (λ_ _ h=>Uz (l:=[.int .i64 a,.int .i64 J]) h) (λ_ _ h=>Uz (l:=[.int .i64 vQ,.int .i64 vR]) h) λw=>VN a J vQ vR w
theorem A4W(C:arg x=.d (AL (in3 a J vQ)))(N:arg y=.d (AL (in3 vR ut uz))):Quiet Tryz.prog hp ⟨dd,.binOp .neq 222 x y t,ty,ps,af,gd⟩ arg (.d (ex (.bool (!(a==vR&&J==ut&&vQ==uz))))):=
 Hg rfl C N (λ_ _ h=>Uz (l:=[.int .i64 a,.int .i64 J,.int .i64 vQ]) h) (λ_ _ h=>Uz (l:=[.int .i64 vR,.int .i64 ut,.int .i64 uz]) h) λw=>A2F a J vQ vR ut uz w
end
theorem Ro(a b c d:Int):Abs Tryz.prog 145 [AL (in2 a b),AL (in2 c d)] (ex (.bool (decide (b<c)||decide (d<a)))):=by
 refine Ab Tryz.func145 λA=>?_;rw[Tryz.ntmps145];apply Y1;refine Bx ?_;refine Bx ?_;refine Wa<|Y0 ?_;refine Cb 0 2 rfl rfl rfl ?_;refine Cb 1 3 rfl rfl rfl ?_;apply Y1;refine Wq Aw ?_;refine Wq Az ?_;refine Wq Aw ?_;refine Wq Az ?_;refine Wq BP ?_;refine Wm ?_;refine Te (λW=>Aw) ?_;refine Wv1 11 rfl (λW=>Az) ?_;refine Te (λW=>Aw) ?_;refine Wv1 13 rfl (λW=>Az) ?_;refine Wv2 12 rfl 14 rfl (λW=>BP) ?_;refine Wq Im ?_;refine Wa<|Y0<|BG ?_
 exact Yf
theorem PH(a b c d:Int):Abs Tryz.prog 147 [AL (in2 a b),AL (in2 c d)] (ex (.bool (decide (b<c)||decide (d<a)))):=by
 refine Ab Tryz.func147 λA=>?_;rw[Tryz.ntmps147];apply Y1;refine Bx ?_;refine Bx ?_;refine Wa<|Y0 ?_;refine Cb 0 2 rfl rfl rfl ?_;refine Cb 1 3 rfl rfl rfl ?_;apply Y1;refine Wq Aw ?_;refine Wq Az ?_;refine Wq Aw ?_;refine Wq Az ?_;refine Wq BP ?_;refine Wm ?_;refine Te (λW=>Aw) ?_;refine Wv1 11 rfl (λW=>Az) ?_;refine Te (λW=>Aw) ?_;refine Wv1 13 rfl (λW=>Az) ?_;refine Wv2 12 rfl 14 rfl (λW=>BP) ?_;refine Wq Im ?_;refine Wa<|Y0<|BG ?_
 exact Yf
def GC(s:List Int)(v:Int):Nat:=s.countP λx=>x==v
theorem JS{s:List Int}(h:n<s.length)(v:Int):GC (s.take (n+1)) v=GC (s.take n) v+(if s.getD n default=v then 1 else 0):=by
 unfold GC;rw[List.take_add_one,List.countP_append,List.getD_eq_getElem?_getD,List.getElem?_eq_getElem h];simp[List.countP_cons]
theorem XU(s:List Int)(v:Int):GC s v<=s.length:=List.countP_le_length
theorem FL(s:List Int)(v:Int)(b:s.length<=1000000):Abs Tryz.prog 146 [Kh s,ex (.int .i64 v)] (ex (.int .i64 (GC s v:Nat))):=by
 refine Ab Tryz.func146 λC=>?_;rw[Tryz.ntmps146];refine Go ?_;refine AE (λE f=>∃k,k<=s.length/\E=s.length-k/\f=⟨[(0,.d (Kh s)),(1,.d (ex (.int .i64 v))),(5,.d (ex (.int .i64 (GC (s.take k) v:Nat)))),(6,.d (ex (.int .i64 (k:Nat))))],[]⟩) ?le ⟨0,by omega,rfl,rfl⟩ ?round
 case le=>exact ZhA
 case round=>
  rintro E _ ⟨k,B,rfl,rfl⟩;by_cases Q:k<s.length
  .have u:=JS Q v
   have A:=XU (s.take k) v;have I:(s.take k).length<=k:=ZgB
   by_cases g:s.getD k default=v
   .rw [if_pos g]at u
    refine Go ?_;exact Zge
   .rw [if_neg g]at u
    refine Go ?_;exact Zge
  .obtain rfl:k=s.length:=by omega
   refine Go ?_;exact Aq (Ak (ResV.tmp rfl rfl) (Af Zeg))
def EA(I kind n d:Int):Int×Int:=if kind=6 then(n,n)else if kind=5 then(if 0<d then(I,I)else if d=0 then(n,n)else(0,0))else if kind=12 then(0,n)else if kind=7\/kind=8 then(0,I-1)else(0,I)
def Gp(I kind n r m:Int):Int×Int:=if kind=6 then(r,r)else if kind=7\/kind=8 then(m,m)else if kind=9 then(0,0)else if kind=13 then(n,I)else(0,I)
theorem Pz(c:Clm)(E:c.b.length<=1000000):Abs Tryz.prog 143 [AL (Ef c)] (AL (in2 (EA 1073741824 c.kind c.n c.d).1 (EA 1073741824 c.kind c.n c.d).2)):=by
 obtain⟨kind,p,n,d,r,o,l,s,b⟩:=c;rw[show Ef ⟨kind,p,n,d,r,o,l,s,b⟩=[ex (.int .i64 kind),IU p,ex (.int .i64 n),ex (.int .i64 d),ex (.int .i64 r),EZ o,HU l,Kh s,Gf b]from rfl];refine Ab Tryz.func143 λA=>?_;rw[Tryz.ntmps143];refine Go ?_;refine Cb 0 1 rfl rfl rfl ?_;refine Go ?_;by_cases J:kind=6
 .subst J
  exact ZeN
 by_cases B:kind=5
 .subst B
  by_cases v:0<d
  .exact Zbi
  by_cases z:d=0
  .exact Zbi
  exact ZeN
 by_cases u:kind=12
 .subst u
  exact ZeN
 by_cases G:kind=7
 .subst G
  exact ZeN
 by_cases I:kind=8
 .subst I
  exact ZeN
 exact ZeN
theorem Ot(c:Clm)(E:c.b.length<=1000000):Abs Tryz.prog 144 [AL (Ef c)] (AL (in2 (Gp 1073741824 c.kind c.n c.r (c.b.length:Nat)).1 (Gp 1073741824 c.kind c.n c.r (c.b.length:Nat)).2)):=by
 obtain⟨kind,p,n,d,r,o,l,s,b⟩:=c;rw[show Ef ⟨kind,p,n,d,r,o,l,s,b⟩=[ex (.int .i64 kind),IU p,ex (.int .i64 n),ex (.int .i64 d),ex (.int .i64 r),EZ o,HU l,Kh s,Gf b]from rfl];refine Ab Tryz.func144 λA=>?_;rw[Tryz.ntmps144];refine Go ?_;refine Cb 0 1 rfl rfl rfl ?_;refine Go ?_;by_cases J:kind=6
 .exact Zbj
 exact Zbk
theorem Ni(c:Clm)(E:c.b.length<=1000000):Abs Tryz.prog 148 [AL (Ef c)] (AL (in2 (EA 1099511627776 c.kind c.n c.d).1 (EA 1099511627776 c.kind c.n c.d).2)):=by
 obtain⟨kind,p,n,d,r,o,l,s,b⟩:=c;rw[show Ef ⟨kind,p,n,d,r,o,l,s,b⟩=[ex (.int .i64 kind),IU p,ex (.int .i64 n),ex (.int .i64 d),ex (.int .i64 r),EZ o,HU l,Kh s,Gf b]from rfl];refine Ab Tryz.func148 λA=>?_;rw[Tryz.ntmps148];by_cases J:kind=6
 .subst J
  apply Y1;refine Bx ?_;refine Al ?_;apply Y0;refine Cb 0 1 rfl rfl rfl ?_;refine Aj<|AWp.block<|Y1 ?_;refine Wq Aw ?_;refine Wq Az ?_;refine Wq AZ ?_;refine Wm ?_;refine Ws ?_;refine Ws ?_;refine Ws ?_;refine Ws ?_;refine Ws ?_;refine Ws ?_;refine Ws ?_;refine Ws ?_;refine Wq EC ?_;refine Wa<|Y0<|Ct<|Y1 ?_;refine Wq Aw ?_;refine Wq Az ?_;refine Wq Aw ?_;refine Wq Az ?_;(refine CA rfl rfl ?_;(refine AP (Aa rfl) rfl rfl rfl ?_;(repeat ((first | refine⟨_,As (ao rfl),?_⟩ | refine⟨_,Po rfl,?_⟩);refine⟨_,rfl,?_⟩));refine⟨_,rfl,?_⟩));refine Sf ?_;refine Y0<|BG<|Dz<|Di ?_
  exact ZhV
 by_cases B:kind=5
 .subst B
  by_cases v:0<d
  .refine Aj<|AWp.region ?_;refine Bx ?_;refine Al ?_;refine AWl.nil<|Yn ?_;refine Cb 0 1 rfl rfl rfl ?_;refine Aj<|AWp.block<|Aj<|AWp.region ?_;refine Wq Aw ?_;refine Wq Az ?_;refine Wq AR ?_;refine Wm ?_;refine Wg Aw ?_;refine Wg Az ?_;refine Wg AZ ?_;refine Wg CS ?_;refine Wg Aw ?_;refine Wg Az ?_;refine Wg AR ?_;refine Wg EC ?_;refine Wq CE ?_;refine Wa<|AWl.nil<|Yn<|Cf<|Aj<|AWp.region ?_;refine Wq Aw ?_;refine Wq Az ?_;refine Wq AZ ?_;refine Wm ?_;refine Wg Aw ?_;refine Wg Az ?_;refine Wg AR ?_;refine Wq EC ?_;refine Wa<|AWl.nil<|Yn<|Cf<|Aj<|AWp.region ?_;refine Wq Aw ?_;refine Wq Az ?_;refine Wq AZ ?_;refine Wa<|AWl.nil<|Yn<|Ct<|Aj<|AWp.region ?_;(refine CA rfl rfl ?_;(refine AP (Aa rfl) rfl rfl rfl ?_;(repeat ((first | refine⟨_, As (ao rfl), ?_⟩ | refine⟨_, Po rfl, ?_⟩);refine⟨_, rfl, ?_⟩));refine⟨_, rfl, ?_⟩));refine Sf ?_;refine AWl.nil<|Yn<|BG<|Dz<|Di ?_
   exact ZhV
  by_cases z:d=0
  .refine Aj<|AWp.region ?_;refine Bx ?_;refine Al ?_;refine AWl.nil<|Yn ?_;refine Cb 0 1 rfl rfl rfl ?_;refine Aj<|AWp.block<|Aj<|AWp.region ?_;refine Wq Aw ?_;refine Wq Az ?_;refine Wq AR ?_;refine Wm ?_;refine Wg Aw ?_;refine Wg Az ?_;refine Wg AZ ?_;refine Wg CS ?_;refine Wg Aw ?_;refine Wg Az ?_;refine Wg AZ ?_;refine Wg EC ?_;refine Wq CE ?_;refine Wa<|AWl.nil<|Yn<|Ct<|Aj<|AWp.region ?_;refine Wq Aw ?_;refine Wq Az ?_;refine Wq Aw ?_;refine Wq Az ?_;(refine CA rfl rfl ?_;(refine AP (Aa rfl) rfl rfl rfl ?_;(repeat ((first | refine⟨_, As (ao rfl), ?_⟩ | refine⟨_, Po rfl, ?_⟩);refine⟨_, rfl, ?_⟩));refine⟨_, rfl, ?_⟩));refine Sf ?_;refine AWl.nil<|Yn<|BG<|Dz<|Di ?_
   exact ZhV
  apply Y1;refine Bx ?_;refine Al ?_;apply Y0;refine Cb 0 1 rfl rfl rfl ?_;refine Aj<|AWp.block<|Y1 ?_;refine Wq Aw ?_;refine Wq Az ?_;refine Wq AR ?_;refine Wm ?_;refine Wg Aw ?_;refine Wg Az ?_;refine Wg AZ ?_;refine Wg CS ?_;refine Wg Aw ?_;refine Wg Az ?_;refine Wg AR ?_;refine Wg EC ?_;refine Wq CE ?_;refine Wa<|Y0<|Cf<|Y1 ?_;refine Wq Aw ?_;refine Wq Az ?_;refine Wq AZ ?_;refine Wm ?_;refine Wg Aw ?_;refine Wg Az ?_;refine Wg AZ ?_;refine Wq EC ?_;refine Wa<|Y0<|Ct<|Y1 ?_;(refine CA rfl rfl ?_;(refine AP (Aa rfl) rfl rfl rfl ?_;(repeat ((first | refine⟨_,As (ao rfl),?_⟩ | refine⟨_,Po rfl,?_⟩);refine⟨_,rfl,?_⟩));refine⟨_,rfl,?_⟩));refine Sf ?_;refine Y0<|BG<|Dz<|Di ?_
  exact ZhV
 by_cases u:kind=12
 .subst u
  apply Y1;refine Bx ?_;refine Al ?_;apply Y0;refine Cb 0 1 rfl rfl rfl ?_;refine Aj<|AWp.block<|Y1 ?_;refine Wq Aw ?_;refine Wq Az ?_;refine Wq AR ?_;refine Wm ?_;refine Wg Aw ?_;refine Wg Az ?_;refine Wg AR ?_;refine Wg CS ?_;refine Ws ?_;refine Ws ?_;refine Ws ?_;refine Wg CE ?_;refine Wq CE ?_;refine Wa<|Y0<|Cf<|Y1 ?_;refine Wq Aw ?_;refine Wq Az ?_;refine Wq AR ?_;refine Wm ?_;refine Ws ?_;refine Ws ?_;refine Ws ?_;refine Wq CE ?_;refine Wa<|Y0<|Cf<|Y1 ?_;refine Wq Aw ?_;refine Wq Az ?_;refine Wq AR ?_;refine Wa<|Y0<|Cf<|Y1 ?_;refine Wq Aw ?_;refine Wq Az ?_;refine Wq AZ ?_;refine Wa<|Y0<|Ct<|Y1 ?_;refine Wq Aw ?_;refine Wq Az ?_;(refine CA rfl rfl ?_;(refine AP (Aa rfl) rfl rfl rfl ?_;(repeat ((first | refine⟨_,As (ao rfl),?_⟩ | refine⟨_,Po rfl,?_⟩);refine⟨_,rfl,?_⟩));refine⟨_,rfl,?_⟩));refine Sf ?_;refine Y0<|BG<|Dz<|Di ?_
  exact ZhV
 by_cases G:kind=7
 .subst G
  apply Y1;refine Bx ?_;refine Al ?_;apply Y0;refine Cb 0 1 rfl rfl rfl ?_;refine Aj<|AWp.block<|Y1 ?_;refine Wq Aw ?_;refine Wq Az ?_;refine Wq AR ?_;refine Wm ?_;refine Wg Aw ?_;refine Wg Az ?_;refine Wg AR ?_;refine Wg CS ?_;refine Ws ?_;refine Ws ?_;refine Ws ?_;refine Wg CE ?_;refine Wq CE ?_;refine Wa<|Y0<|Cf<|Y1 ?_;refine Wq Aw ?_;refine Wq Az ?_;refine Wq AR ?_;refine Wm ?_;refine Ws ?_;refine Ws ?_;refine Ws ?_;refine Wq CE ?_;refine Wa<|Y0<|Cf<|Y1 ?_;refine Wq Aw ?_;refine Wq Az ?_;refine Wq AR ?_;refine Wa<|Y0<|Cf<|Y1 ?_;refine Wq Aw ?_;refine Wq Az ?_;refine Wq AR ?_;refine Wa<|Y0<|Cf<|Y1 ?_;refine Wq Aw ?_;refine Wq Az ?_;refine Wq AZ ?_;refine Wm ?_;refine Ws ?_;refine Ws ?_;refine Ws ?_;refine Wq EC ?_;refine Wa<|Y0<|Ct<|Y1 ?_;(refine CA rfl rfl ?_;(refine AP (Aa rfl) rfl rfl rfl ?_;(repeat ((first | refine⟨_,As (ao rfl),?_⟩ | refine⟨_,Po rfl,?_⟩);refine⟨_,rfl,?_⟩));refine⟨_,rfl,?_⟩));refine Sf ?_;refine Y0<|BG<|Dz<|Di ?_
  exact ZhV
 by_cases I:kind=8
 .subst I
  apply Y1;refine Bx ?_;refine Al ?_;apply Y0;refine Cb 0 1 rfl rfl rfl ?_;refine Aj<|AWp.block<|Y1 ?_;refine Wq Aw ?_;refine Wq Az ?_;refine Wq AR ?_;refine Wm ?_;refine Wg Aw ?_;refine Wg Az ?_;refine Wg AR ?_;refine Wg CS ?_;refine Ws ?_;refine Ws ?_;refine Ws ?_;refine Wg CE ?_;refine Wq CE ?_;refine Wa<|Y0<|Cf<|Y1 ?_;refine Wq Aw ?_;refine Wq Az ?_;refine Wq AR ?_;refine Wm ?_;refine Ws ?_;refine Ws ?_;refine Ws ?_;refine Wq CE ?_;refine Wa<|Y0<|Cf<|Y1 ?_;refine Wq Aw ?_;refine Wq Az ?_;refine Wq AR ?_;refine Wa<|Y0<|Cf<|Y1 ?_;refine Wq Aw ?_;refine Wq Az ?_;refine Wq AR ?_;refine Wa<|Y0<|Cf<|Y1 ?_;refine Wq Aw ?_;refine Wq Az ?_;refine Wq AR ?_;refine Wm ?_;refine Wg Aw ?_;refine Wg Az ?_;refine Wg AZ ?_;refine Wq CE ?_;refine Wa<|Y0<|Ct<|Y1 ?_;(refine CA rfl rfl ?_;(refine AP (Aa rfl) rfl rfl rfl ?_;(repeat ((first | refine⟨_,As (ao rfl),?_⟩ | refine⟨_,Po rfl,?_⟩);refine⟨_,rfl,?_⟩));refine⟨_,rfl,?_⟩));refine Sf ?_;refine Y0<|BG<|Dz<|Di ?_
  exact ZhV
 apply Y1;refine Bx ?_;refine Al ?_;apply Y0;refine Cb 0 1 rfl rfl rfl ?_;refine Aj<|AWp.block<|Y1 ?_;refine Wq Aw ?_;refine Wq Az ?_;refine Wq AR ?_;refine Wm ?_;refine Wg Aw ?_;refine Wg Az ?_;refine Wg AR ?_;refine Wg CS ?_;refine Ws ?_;refine Ws ?_;refine Ws ?_;refine Wg CE ?_;refine Wq CE ?_;refine Wa<|Y0<|Cf<|Y1 ?_;refine Wq Aw ?_;refine Wq Az ?_;refine Wq AR ?_;refine Wm ?_;refine Ws ?_;refine Ws ?_;refine Ws ?_;refine Wq CE ?_;refine Wa<|Y0<|Cf<|Y1 ?_;refine Wq Aw ?_;refine Wq Az ?_;refine Wq AR ?_;refine Wa<|Y0<|Cf<|Y1 ?_;refine Wq Aw ?_;refine Wq Az ?_;refine Wq AR ?_;refine Wa<|Y0<|Cf<|Y1 ?_;refine Wq Aw ?_;refine Wq Az ?_;refine Wq AR ?_;refine Wm ?_;refine Wg Aw ?_;refine Wg Az ?_;refine Wg AR ?_;refine Wq CE ?_;refine Wa<|Y0<|Cf<|Gm<|BE<|Yn<|Y1 ?_;(refine CA rfl rfl ?_;(refine AP (Aa rfl) rfl rfl rfl ?_;(repeat ((first | refine⟨_,As (ao rfl),?_⟩ | refine⟨_,Po rfl,?_⟩);refine⟨_,rfl,?_⟩));refine⟨_,rfl,?_⟩));refine Sf ?_;refine Y0<|BG ?_
 exact ZhV
theorem PF(c:Clm)(E:c.b.length<=1000000):Abs Tryz.prog 149 [AL (Ef c)] (AL (in2 (Gp 1099511627776 c.kind c.n c.r (c.b.length:Nat)).1 (Gp 1099511627776 c.kind c.n c.r (c.b.length:Nat)).2)):=by
 obtain⟨kind,p,n,d,r,o,l,s,b⟩:=c;rw[show Ef ⟨kind,p,n,d,r,o,l,s,b⟩=[ex (.int .i64 kind),IU p,ex (.int .i64 n),ex (.int .i64 d),ex (.int .i64 r),EZ o,HU l,Kh s,Gf b]from rfl];refine Ab Tryz.func149 λA=>?_;rw[Tryz.ntmps149];refine Go ?_;refine Cb 0 1 rfl rfl rfl ?_;refine Go ?_;by_cases J:kind=6
 .exact Zbj
 exact Zbk
abbrev cn3(s:List Int):List D:=in3 (GC s (-1):Nat) (GC s 0:Nat) (GC s 1:Nat)
theorem Js(s:List Int)(hs:s.length<=1000000):Abs Tryz.prog 142 [Kh s] (AL (cn3 s)):=by
 refine Ab Tryz.func142 λs0=>?_
 rw [Tryz.ntmps142]
 refine Go ?_
 refine AE (λmz σ=>∃k,k<=s.length/\mz=s.length-k/\σ=⟨[(2,.ptr 0 0),(3,.ptr 1 0),(6,.d (Kh s)),(7,.d (ex (.int .i64 (s.length:Nat)))),(8,.d (ex (.int .i64 (k:Nat))))],[.var 222 ((in3 0 0 0).map .d),.var 222 ((cn3 (s.take k)).map .d)]⟩) ?le ⟨0,by omega,rfl,rfl⟩ ?round
 case le=>exact Ac (by exact Yp<|Yp<|Yd<|Yd<|Yd<|FrLe.nil) (by refine HpLe.cons (OwLe.cells (by repeat (first | exact CellsLe.nil | refine CellsLe.cons (AVle.d rfl) ?_ | refine CellsLe.cons (AVle.le Bd) ?_))) ?_;refine HpLe.cons (OwLe.cells (by repeat (first | exact CellsLe.nil | refine CellsLe.cons (AVle.d rfl) ?_ | refine CellsLe.cons (AVle.le Bd) ?_))) ?_;exact HpLe.nil)
 case round=>
  rintro mz _ ⟨k,hk,rfl,rfl⟩
  by_cases hlt:k<s.length
  .have hv:∀v:Int, GC (s.take k) v<=k:=λv=>Nat.le_trans (XU _ v) (by rw [List.length_take]; omega)
   have h1:=JS hlt (-1)
   have h2:=JS hlt 0
   have h3:=JS hlt 1
   have hv1:=hv (-1)
   have hv2:=hv 0
   have hv3:=hv 1
   by_cases g1:s.getD k default = -1
   .rw [g1] at h1 h2 h3
    simp at h1 h2 h3
    refine Go ?_
    rw [g1]
    refine Go ?_
    refine Am (s.length-(k+1)) (by omega) ⟨k+1,by omega,rfl,rfl⟩ ?_
    exact Ac (by exact Yp<|Yp<|Yd<|Yd<|Yd<|FrLe.nil) (by refine HpLe.cons (OwLe.cells (CellsLe.cons (AVle.int (by omega)) (CellsLe.cons (AVle.int (by omega)) (CellsLe.cons (AVle.int (by omega)) CellsLe.nil)))) ?_;refine HpLe.cons (OwLe.cells (CellsLe.cons (AVle.int (by omega)) (CellsLe.cons (AVle.int (by omega)) (CellsLe.cons (AVle.int (by omega)) CellsLe.nil)))) ?_;exact HpLe.nil)
   by_cases g2:s.getD k default=0
   .rw [g2] at h1 h2 h3
    simp at h1 h2 h3
    refine Go ?_
    rw [g2]
    refine Go ?_
    refine Am (s.length-(k+1)) (by omega) ⟨k+1,by omega,rfl,rfl⟩ ?_
    exact Ac (by exact Yp<|Yp<|Yd<|Yd<|Yd<|FrLe.nil) (by refine HpLe.cons (OwLe.cells (CellsLe.cons (AVle.int (by omega)) (CellsLe.cons (AVle.int (by omega)) (CellsLe.cons (AVle.int (by omega)) CellsLe.nil)))) ?_;refine HpLe.cons (OwLe.cells (CellsLe.cons (AVle.int (by omega)) (CellsLe.cons (AVle.int (by omega)) (CellsLe.cons (AVle.int (by omega)) CellsLe.nil)))) ?_;exact HpLe.nil)
   by_cases g3:s.getD k default=1
   .rw [g3] at h1 h2 h3
    simp at h1 h2 h3
    refine Go ?_
    rw [g3]
    refine Go ?_
    refine Am (s.length-(k+1)) (by omega) ⟨k+1,by omega,rfl,rfl⟩ ?_
    exact Ac (by exact Yp<|Yp<|Yd<|Yd<|Yd<|FrLe.nil) (by refine HpLe.cons (OwLe.cells (CellsLe.cons (AVle.int (by omega)) (CellsLe.cons (AVle.int (by omega)) (CellsLe.cons (AVle.int (by omega)) CellsLe.nil)))) ?_;refine HpLe.cons (OwLe.cells (CellsLe.cons (AVle.int (by omega)) (CellsLe.cons (AVle.int (by omega)) (CellsLe.cons (AVle.int (by omega)) CellsLe.nil)))) ?_;exact HpLe.nil)
   rw [if_neg g1] at h1
   rw [if_neg g2] at h2
   rw [if_neg g3] at h3
   by_cases g4:s.getD k default < -1
   .refine Go ?_
    refine Am (s.length-(k+1)) (by omega) ⟨k+1,by omega,rfl,rfl⟩ ?_
    exact Ac (by exact Yp<|Yp<|Yd<|Yd<|Yd<|FrLe.nil) (by refine HpLe.cons (OwLe.cells (CellsLe.cons (AVle.int (by omega)) (CellsLe.cons (AVle.int (by omega)) (CellsLe.cons (AVle.int (by omega)) CellsLe.nil)))) ?_;refine HpLe.cons (OwLe.cells (CellsLe.cons (AVle.int (by omega)) (CellsLe.cons (AVle.int (by omega)) (CellsLe.cons (AVle.int (by omega)) CellsLe.nil)))) ?_;exact HpLe.nil)
   have g5:1<s.getD k default:=by omega
   refine Go ?_
   refine Am (s.length-(k+1)) (by omega) ⟨k+1,by omega,rfl,rfl⟩ ?_
   exact Ac (by exact Yp<|Yp<|Yd<|Yd<|Yd<|FrLe.nil) (by refine HpLe.cons (OwLe.cells (CellsLe.cons (AVle.int (by omega)) (CellsLe.cons (AVle.int (by omega)) (CellsLe.cons (AVle.int (by omega)) CellsLe.nil)))) ?_;refine HpLe.cons (OwLe.cells (CellsLe.cons (AVle.int (by omega)) (CellsLe.cons (AVle.int (by omega)) (CellsLe.cons (AVle.int (by omega)) CellsLe.nil)))) ?_;exact HpLe.nil)
  .obtain rfl:k=s.length:=by omega
   refine Go ?_
   exact Aq (Ak (ResV.cell rfl rfl (Aa rfl) rfl rfl rfl) (Af (by rw [List.take_length])))
abbrev IV(kind:Int)(P:List Tm)(n d r:Int)(o:List (Nat->Int))(l:List (List RTm))(s:List Int)(b:List (Nat->RQ×RQ)):List D:=[ex (.int .i64 kind),Cd P,ex (.int .i64 n),ex (.int .i64 d),ex (.int .i64 r),EZ o,HU l,Kh s,Gf b]
theorem KI(kind:Int)(P:List Tm)(n d r:Int)(o:List (Nat->Int))(l:List (List RTm))(s:List Int)(b:List (Nat->RQ×RQ)):Ef ⟨kind,P.map Em,n,d,r,o,l,s,b⟩=IV kind P n d r o l s b:=by
 unfold IV;rw[JI];rfl
def Rg(s c:List Int):Bool:=((GC s (-1):Nat):Int)==((GC c (-1):Nat):Int)&&((GC s 0:Nat):Int)==((GC c 0:Nat):Int)&&((GC s 1:Nat):Int)==((GC c 1:Nat):Int)
def LR(q:Bool)(kind Q n e d v r I:Int)(s c:List Int):Bool:=
 ((kind==1&&Q==2)&&q)||((kind==5&&Q==5)&&(d != v||n != e))||((kind==6&&Q==6)&&(n != e||d != v||r != I))||((kind==8&&Q==8)&&(q && !Rg s c))||((kind==10&&Q==8)&&(q&&decide ((0:Int)<((GC c (-1):Nat):Int))))
def rgP(kind:Int)(u M v R:Int×Int):Bool:=
 ((decide (u.2<M.1)||decide (M.2<u.1))||(decide (v.2<R.1)||decide (R.2<v.1)))||decide (v.1>M.2)
theorem Ik(kind S:Int)(P g:List Tm)(n e d Q r L:Int)(o k:List (Nat->Int))(l O:List (List RTm))(s c:List Int)(b x:List (Nat->RQ×RQ))(X:PSz P 1000000000)(J:PSz g 1000000000)(h:P.length<=1000000)(V:g.length<=1000000)(C:s.length<=1000000)(m:c.length<=1000000)(E:b.length<=1000000)(Y:x.length<=1000000)(u p v R:Int×Int)(N:EA 1073741824 kind n d=u)(T:EA 1073741824 S e Q=p)(G:Gp 1073741824 kind n r (b.length:Nat)=v)(f:Gp 1073741824 S e L (x.length:Nat)=R) :
  Abs Tryz.prog 71 [AL (IV kind P n d r o l s b),AL (IV S g e Q L k O c x)] (ex (.bool (LR (decide (CC P g=0)) kind S n e d Q r L s c||rgP kind u p v R||(kind==2&&(p.1==0&&p.2==0))))):=by
 have Z:=Ry P g X J h V;have j:=Js s C;have xg:=Js c m;have M:=Pz ⟨kind,P.map Em,n,d,r,o,l,s,b⟩ E;have xa:=Pz ⟨S,g.map Em,e,Q,L,k,O,c,x⟩ Y;have cr:=Ot ⟨kind,P.map Em,n,d,r,o,l,s,b⟩ E;have xc:=Ot ⟨S,g.map Em,e,Q,L,k,O,c,x⟩ Y;rw[KI]at M xa cr xc;rw[show EA 1073741824 (Clm.kind ⟨kind,P.map Em,n,d,r,o,l,s,b⟩) _ _=u from N]at M;rw[show EA 1073741824 (Clm.kind ⟨S,g.map Em,e,Q,L,k,O,c,x⟩) _ _=p from T]at xa;rw[show Gp 1073741824 (Clm.kind ⟨kind,P.map Em,n,d,r,o,l,s,b⟩) _ _ _=v from G]at cr;rw[show Gp 1073741824 (Clm.kind ⟨S,g.map Em,e,Q,L,k,O,c,x⟩) _ _ _=R from f]at xc;have xe:=Ro u.1 u.2 p.1 p.2;have xf:=Ro v.1 v.2 R.1 R.2;clear N T G f;refine Ab Tryz.func71 λK=>?_;rw[Tryz.ntmps71];apply Y1;refine Bx ?_;refine Bx ?_;refine Wa<|Y0 ?_;refine Cb 0 2 rfl rfl rfl ?_;refine Cb 1 3 rfl rfl rfl ?_;refine AWp.cutB 0 (λ_:Unit=>⟨[(2,.d (Et 34 (IV kind P n d r o l s b))),(3,.d (Et 34 (IV S g e Q L k O c x))),(4,.d (ex (.bool false)))],[.dead,.dead]⟩) (λ_=>LR (decide (CC P g=0)) kind S n e d Q r L s c=false) ?_ ?_;refine AWp.block<|Y1 ?_;refine Wq Aw ?_;refine Wq Az ?_;refine Wq BP ?_;refine Wm ?_;refine IY (λW=>Aw) ?_;refine DW 14 rfl (λW=>Az) ?_;refine DW 15 rfl (λW=>BP) ?_;refine Wq Cg ?_;refine Wa<|Y0 ?_
 .refine Dm (ao rfl) (λF=>?_) (λF=>?_)
  .obtain ⟨A, B⟩:kind=1/\S=2:=by simpa using F
   refine Go ?_;refine Dm (ao rfl) (λq=>?_) (λq=>?_)
   .exact Zbl
   .exact Zbm
  refine Go ?_;refine IY (λW=>Aw) ?_;refine DW 28 rfl (λW=>Az) ?_;refine DW 29 rfl (λW=>BP) ?_;refine Go ?_;refine Dm (ao rfl) (λI=>?_) (λI=>?_)
  .obtain ⟨A, B⟩:kind=5/\S=5:=by simpa using I
   refine Go ?_;refine Te (λW=>Aw) ?_;refine Wv1 38 rfl (λW=>Az) ?_;refine Te (λW=>Aw) ?_;refine Wv1 40 rfl (λW=>Az) ?_;refine Wv2 39 rfl 41 rfl (λW=>BP) ?_;refine Go ?_;refine Dm (ao rfl) (λq=>?_) (λq=>?_)
   .exact Zbl
   .exact Zbm
  refine Go ?_;refine IY (λW=>Aw) ?_;refine DW 49 rfl (λW=>Az) ?_;refine DW 50 rfl (λW=>BP) ?_;refine Go ?_;refine Dm (ao rfl) (λU=>?_) (λU=>?_)
  .obtain ⟨A, B⟩:kind=6/\S=6:=by simpa using U
   refine Go ?_;refine Te (λW=>Aw) ?_;refine Wv1 59 rfl (λW=>Az) ?_;refine Te (λW=>Aw) ?_;refine Wv1 61 rfl (λW=>Az) ?_;refine Wv2 60 rfl 62 rfl (λW=>BP) ?_;refine Go ?_;refine Te (λW=>Aw) ?_;refine Wv1 66 rfl (λW=>Az) ?_;refine Te (λW=>Aw) ?_;refine Wv1 68 rfl (λW=>Az) ?_;refine Wv2 67 rfl 69 rfl (λW=>BP) ?_;refine Go ?_;refine Dm (ao rfl) (λq=>?_) (λq=>?_)
   .exact Zbl
   .exact Zbm
  refine Go ?_;refine IY (λW=>Aw) ?_;refine DW 77 rfl (λW=>Az) ?_;refine DW 78 rfl (λW=>BP) ?_;refine Go ?_;refine Dm (ao rfl) (λa=>?_) (λa=>?_)
  .obtain ⟨A, B⟩:kind=8/\S=8:=by simpa using a
   by_cases qq:CC P g=0
   .rw [decide_eq_true qq]at Z ⊢
    apply Aj;refine Dy 14 ?_;have y:=xg;refine CY ?_;refine⟨_,AN rfl rfl (A4W rfl rfl),?_⟩;refine ZeO ?_;refine Dm (ao rfl) (λq=>?_) (λq=>?_)
    .exact Zbl
    .exact Zbm
   .rw [decide_eq_false qq]at Z ⊢
    apply Aj;refine Dy 14 ?_;refine ZeO ?_;exact Zgy
  refine Go ?_;refine IY (λW=>Aw) ?_;refine DW 100 rfl (λW=>Az) ?_;refine DW 101 rfl (λW=>BP) ?_;refine Go ?_;refine Dm (ao rfl) (λi=>?_) (λi=>?_)
  .obtain ⟨A, B⟩:kind=10/\S=8:=by simpa using i
   by_cases qq:CC P g=0
   .rw [decide_eq_true qq]at Z ⊢
    have w:=xg;refine Go ?_;refine Wg (A4Y (i:=0) (ds:=cn3 c) rfl rfl (Aa rfl) (Aa rfl) rfl ZbA ZbA (Nat.zero_lt_succ _)) ?_;refine Go ?_;refine Dm (ao rfl) (λq=>?_) (λq=>?_)
    .exact Zbl
    .exact Zbm
   .rw [decide_eq_false qq]at Z ⊢
    refine Go ?_;exact Zgy
  refine Go ?_;refine CutS.normal () (by simp only[LR,F,I,U,a,i,Bool.false_and,Bool.or_false]) ?_;exact Ac Zdg ZbH
 .rintro-xd
  rw[xd];apply Aj;refine Dy 6 ?_;refine CY ?_;refine Sf ?_;refine Sf ?_;apply Y0;refine Cb 2 5 rfl rfl rfl ?_;refine Cb 3 6 rfl rfl rfl ?_;apply Aj;refine Dy 6 ?_;have H:=xa;have xb:=xc;refine CY ?_;refine Sf ?_;refine Sf ?_;apply Y0;refine Cb 4 7 rfl rfl rfl ?_;refine Cb 5 8 rfl rfl rfl ?_;refine Aj<|Y1 ?_;refine Wq BO ?_;refine Wq BO ?_;refine Wq (BC (xe)) ?_;refine Wm ?_;refine Te (λW=>BO) ?_;refine Te (λW=>BO) ?_;refine Wv2 128 rfl 129 rfl (λW=>BC (xf)) ?_;refine Wq Im ?_;refine Wm ?_;refine Te (λW=>Aw) ?_;refine Wv1 133 rfl (λW=>Az) ?_;refine Te (λW=>Aw) ?_;refine Wv1 135 rfl (λW=>Az) ?_;refine Wv2 134 rfl 136 rfl (λW=>BP) ?_;refine Wq Im ?_;apply Y0
  refine Dm (ao rfl) (λq=>?_) (λq=>?_)
  .refine Go ?_
   exact Aq (Ak (ResV.tmp rfl rfl) (Af (congrArg (λz=>ex (.bool z)) (by rw[show rgP kind u p v R=true from q];simp))))
  .by_cases t:kind=2
   .refine Go ?_;refine Wg (ZN rfl rfl) ?_;refine Go ?_
    exact ZhW
   .refine Go ?_
    exact ZhW
end
end Go.Proofs.YtcikkglcoeedlaaGreat
