/- Part 27. No condition. -/
import Derived.Test.YtcikkglcoeedlaaGreatDf18
import Derived.Test.YtcikkglcoeedlaaGreatDf19
import Derived.Test.YtcikkglcoeedlaaGreatDf20
import Derived.Test.YtcikkglcoeedlaaGreatDf21
import Derived.Test.YtcikkglcoeedlaaGreatDf22
import Derived.Test.YtcikkglcoeedlaaGreatDf23
import Derived.Test.YtcikkglcoeedlaaGreatDf24
import Derived.Test.YtcikkglcoeedlaaGreatDf25
set_option linter.unusedSimpArgs false
set_option linter.unusedVariables false
set_option maxRecDepth 100000
set_option maxHeartbeats 4000000
namespace Go.Proofs.YtcikkglcoeedlaaGreat
open _root_.Go.Proofs.Tryz
variable{ux:List RTm}{n:Nat}{e:Type}{uV:Nat->e}{xg:RQ}
section
open Go.RowKit
theorem A26{s t:Tm}(h:DK s=DK t):s=t:=by
 have q:decide (s.c.num<0)=decide (t.c.num<0):=congrArg RTm.b h;have A:Aw s.c.num.natAbs=Aw t.c.num.natAbs:=congrArg RTm.l h;have K:decide ((s.c.den:Int)<0)=decide ((t.c.den:Int)<0):=congrArg RTm.b' h;have Y:Aw (s.c.den:Int).natAbs=Aw (t.c.den:Int).natAbs:=congrArg RTm.l' h;have n:s.m=t.m:=congrArg RTm.m h;have b:=QO q A;have y:=QO K Y;have B:s.c.den=t.c.den:=by omega
 have C:s.c=t.c:=Rat.ext b B;cases s;cases t;simp only[Tm.mk.injEq];exact⟨C,n⟩
open Classical in
noncomputable def toT (r:RTm):Tm:=if h:∃t,DK t=r then h.choose else default
noncomputable def Mo (p:List RTm):List Tm:=p.map toT
theorem A4C(t:Tm):toT (DK t)=t:=by
 have h:∃R,DK R=DK t:=⟨t,rfl⟩;unfold toT;rw[dif_pos h];exact A26 h.choose_spec
theorem A0i{r:RTm}(h:QOk r.b r.l r.b' r.l'):DK (toT r)=r:=by
 obtain⟨q,b,y,B,Y⟩:=h;have A:∃t,DK t=r:=⟨⟨q,r.m⟩,by cases r;simp only[DK,RTm.mk.injEq];exact⟨b.symm,y.symm,B.symm,Y.symm,trivial⟩⟩;unfold toT;rw[dif_pos A];exact A.choose_spec
theorem KG(P:List Tm):Mo (P.map DK)=P:=by
 unfold Mo;rw[Yce]
 conv=>rhs;rw[<-Yey P]
 exact YaY λt _=>A4C t
theorem ZT(p:List RTm):(Mo p).length=p.length:=by simp[Mo]
theorem Vd(h:HW ux):ux=(Mo ux).map DK/\Canon (Mo ux)/\PIn (Mo ux) 0 65535:=by
 have q:ux=(Mo ux).map DK:=by
  unfold Mo;rw[Yce]
  conv=>lhs;rw[<-Yey ux]
  refine YaY λr V=>?_;obtain⟨k,B,e⟩:=YcH V;have A:=(h k B).1.1;have K:Fj ux k=r:=by unfold Fj;exact ZgY
  rw[K]at A;exact(A0i A).symm
 obtain⟨P,M⟩:∃P,P=Mo ux:=⟨_,rfl⟩;rw[<-M]at q ⊢;subst q;have u:∀k,k<P.length->Fj (P.map DK) k=DK (Bv P k):=λk B=>Vu B;have I:(P.map DK).length=P.length:=Yap _;refine⟨rfl,⟨A9M λk B d=>?_,λt L=>?_⟩,λt L=>?_⟩
 .have Y:=(h k (by rw [I]; exact B)).2 d
  rw[u k B,u (k-1) ZbG]at Y;exact Y
 .obtain ⟨k,B,e⟩:=YcH L
  have Y:=(h k (by rw[I];exact B)).1.2.1;have n:Bv P k=t:=by unfold Bv;exact ZgY
  rw[u k B,n]at Y;intro l;apply Y;show Aw t.c.num.natAbs=[];rw[l];exact BL
 .obtain ⟨k,B,e⟩:=YcH L
  have Y:=(h k (by rw[I];exact B)).1.2.2;have n:Bv P k=t:=by unfold Bv;exact ZgY
  rw[u k B,n]at Y;exact Y
structure WZ(l:List Nat):Prop where
 s:BN l
 n:l.length<=10000
structure QZ(q:RQ):Prop where
 n:WZ q.l
 d:WZ q.l'
structure TZ(t:RTm):Prop where
 n:WZ t.l
 d:WZ t.l'
structure PZ(p:List RTm):Prop where
 t:∀r∈p,TZ r
 n:p.length<=40000
structure LZ{α:Type}(D:α->Prop)(l:List α):Prop where
 e:∀x∈l,D x
 n:l.length<=40000
theorem PZ.rt{p:List RTm}(h:PZ p):AaU p:=λr V=>⟨(h.t r V).n.s,(h.t r V).d.s,by have:=(h.t r V).n.n;omega,by have:=(h.t r V).d.n;omega⟩
theorem PZ.sz(h:PZ ux)(r:HW ux):PSz (Mo ux) 10000:=λt L=>by
 obtain⟨q,_,_⟩:=Vd r;have x:DK t∈ux:=by rw[q];exact Yca L
 have A:=h.t _ x;exact⟨A.n.n,A.d.n⟩
theorem PZ.len{p:List RTm}(h:PZ p):(Mo p).length<=40000:=by rw[ZT];exact h.n
def Va(n d:Int)(p:List RTm):Prop:=HW p/\OC (Mo p)<2^n.toNat/\HU (Mo p)<=d
theorem A7r{P:List Tm}(M:PSz P n)(F:Canon P):PSz (DZ P) (1+P.length*n+n):=by
 by_cases d:P.length=0
 .unfold DZ
  rw[Yan d];intro t L;cases L
 .unfold DZ
  rw[Yai d];exact Vh (Nz P M F ZbG) M
def pAt(l:List (List RTm))(k:Nat):List RTm:=l.getD k default
def EqP(n I:Int)(p:List RTm):Prop:=Va n 12 p/\I<=HU (Mo p)/\CW (DZ (Mo p)) (Mo p)=0
def MA(n I:Int)(l:List (List RTm)):Prop:=l.length<=12/\∀i,i<l.length->EqP n I (pAt l i)/\(0<i->CW (Mo (pAt l (i-1))) (Mo (pAt l i))<0)
def On(k:Cor):Prop:=1<=k.n/\k.n<=4/\MA k.n 0 k.e/\MA k.n 1 k.f
structure CZ(k:Cor):Prop where
 n:IW k.n
 e:LZ PZ k.e
 f:LZ PZ k.f
theorem A25{l:List (List RTm)}(h:n<l.length):pAt l n∈l:=BF h
theorem A8r{d:Int}(r:HW ux):Va (n:Int) d ux↔OC (Mo ux)<2^n/\HU (Mo ux)<=d:=⟨λh=>h.2,λh=>⟨r,h⟩⟩
open Classical in
theorem Qd(m:Nat)(B:1<=m/\m<=4)(e f:List (List RTm))(p:List RTm)(d:Int)(G:PZ p):Abs prog 154 [AQ (Ec ⟨(m:Nat),e,f⟩),Kc p,ex (.int .i64 d)] (ex (.bool (decide (Va (m:Nat) d p)))):=by
 have O:=G.n;have X:=A1k p G.rt ZbG;by_cases r:HW p
 .rw [Yak r]at X
  obtain⟨q,A,K⟩:=Vd r;have F:=G.len;have J:=A8r (n:=m) (d:=d) r;obtain⟨P,M⟩:∃P,P=Mo p:=⟨_,rfl⟩;rw[<-M]at q A K F J;have E:=A40 P ZbG;have I:=Zr P K ZbG;have W:=Ve P;rw[Jd,<-q]at E I;obtain⟨u,S⟩:∃u,u=OC P:=⟨_,rfl⟩;obtain⟨g,T⟩:∃g,g=HU P:=⟨_,rfl⟩;rw[<-S]at E J W;rw[<-T]at I J;have Q:Min.min m IntKind.i64.bits=m:=Ybx (by show m<=64;omega);obtain⟨x,C⟩:∃x,x=u/2^m:=⟨_,rfl⟩;have V:((u:Nat):Int).fdiv (2^m)=((x:Nat):Int):=by rw[EX rfl,C]
  have N:x=0↔u<2^m:=by rw[C,Nat.div_eq_zero_iff];have:0<2^m:=Yeg ZbL;omega
  by_cases Y:u<2^m
  .obtain rfl:=N.2 Y
   by_cases n:g<=d
   .rw [Yak (J.2 ⟨Y,n⟩)]
    refine Ab func154 λw=>?_;rw[ntmps154];refine Go ?_;refine Dy 18 ?_;refine Dw ?_;exact Zhh
   .rw [Yad λh=>n (J.1 h).2]
    refine Ab func154 λw=>?_;rw[ntmps154];refine Go ?_;refine Dy 18 ?_;refine Dw ?_;exact Zhh
  .have L:x≠0:=λe=>Y (N.1 e)
   rw[Yad λh=>Y (J.1 h).1];refine Ab func154 λw=>?_;rw[ntmps154];refine Go ?_;refine Dy 18 ?_;refine Dw ?_;exact Zhh
 .rw [Yad r]at X
  rw[Yad λh:Va (m:Nat) d p=>r h.1];refine Ab func154 λw=>?_;rw[ntmps154];refine Go ?_;refine Dy 18 ?_;exact Zhb
def A1q(n I:Int)(l:List (List RTm))(i:Nat):Prop:=EqP n I (pAt l i)/\(0<i->CW (Mo (pAt l (i-1))) (Mo (pAt l i))<0)
open Classical in
theorem Ru(m:Nat)(x:1<=m/\m<=4)(e f l:List (List RTm))(d:Int)(u:LZ PZ l):Abs prog 152 [AQ (Ec ⟨(m:Nat),e,f⟩),Ic l,ex (.int .i64 d)] (ex (.bool (decide (MA (m:Nat) d l)))):=by
 have xh:=u.n;by_cases L:l.length<=12
 .refine Ab func152 λw=>?_
  rw[ntmps152];refine Go ?_;refine AF (λv c=>∃k,k<=l.length/\v=l.length-k/\(∀j,j<k->A1q (m:Nat) d l j)/\c=⟨[(1,.d (Ic l)),(2,.d (ex (.int .i64 d))),(3,.ptr 0 0),(12,.d (Ic l)),(13,.d (ex (.int .i64 (l.length:Nat)))),(14,.d (ex (.int .i64 (k:Nat))))],[.var 139 ((Ec ⟨(m:Nat),e,f⟩).map .d)]⟩) ?le ⟨0,by omega,rfl,λj W=>absurd W (Ybg j),rfl⟩ ?round
  case le=>exact Ac ZdW ZcG
  case round=>
   rintro v _ ⟨k,C,rfl,N,rfl⟩;by_cases O:k<l.length
   .have G:PZ (pAt l k):=u.e _ (A25 O)
    have R:=G.n;obtain⟨p,o⟩:∃p,p=pAt l k:=⟨_,rfl⟩;have Z:=λh:MA (m:Nat) d l=>h.2 k O;rw[<-o]at G R Z;have X:=Qd m x e f p 12 G;by_cases E:Va (m:Nat) 12 p
    .rw [Yak E]at X
     obtain⟨A,B,K⟩:=Vd E.1;have L:=G.len;have t:=G.sz E.1;obtain⟨P,M⟩:∃P,P=Mo p:=⟨_,rfl⟩
     have F:EqP (m:Nat) d p↔d<=HU P/\CW (DZ P) P=0:=by
      rw[M];exact⟨λh=>h.2,λh=>⟨E,h⟩⟩
     rw[<-M]at A B K L t Z;have xa:P.length*10000<=400000000:=YaC 10000 L;have cD:=Zr P K ZbG;have s:=A1m P 10000 t B K ZbG ZbG;have y:=UU (DZ P) P ((A7r t B).mono ZbG) (t.mono ZbG) (by rw[Ny];omega) ZbG;rw[Jd P,<-A]at cD s y;obtain⟨g,T⟩:∃g,g=HU P:=⟨_,rfl⟩;rw[<-T]at cD F;have xg:=o;subst o;by_cases Y:d<=g
     .by_cases n:CW (DZ P) P=0
      .rw [Yak n]at y
       by_cases b:k=0
       .have xb:∀j,j<k+1->A1q (m:Nat) d l j:=λj W=>by
         obtain rfl:j=k:=by omega
         exact⟨F.2 ⟨Y,n⟩,λh=>absurd h ZbG⟩
        obtain rfl:=b;refine Go ?_;refine Ai (l.length-(0+1)) ZbG ⟨0+1,by omega,rfl,xb,rfl⟩ ?_;exact Ac ZdW ZcG
       .have I:PZ (pAt l (k-1)):=u.e _ (A25 ZbG)
        have H:=(N (k-1) ZbG).1.1;obtain⟨V,S,a⟩:=Vd H.1;have xf:=I.len;have xd:=I.sz H.1;obtain⟨q,xc⟩:∃q,q=pAt l (k-1):=⟨_,rfl⟩;rw[<-xc]at I V S a xf xd;obtain⟨Q,i⟩:∃Q,Q=Mo q:=⟨_,rfl⟩;rw[<-i]at V S a xf xd;have r:=A6E Q P (xd.mono ZbG) (t.mono ZbG) ZbG ZbG;rw[Jd P,<-A,Jd Q,<-V]at r;obtain⟨z,U⟩:∃z,z=CW Q P:=⟨_,rfl⟩;rw[<-U]at r;have xe:=xc;subst xc;by_cases J:z<0
        .have xb:∀j,j<k+1->A1q (m:Nat) d l j:=λj W=>by
          rcases YaD j k with W | W
          .exact N j W
          .obtain rfl:j=k:=by omega
           exact⟨F.2 ⟨Y,n⟩,λ_=>by rw[<-xe,<-M,<-i,<-U];exact J⟩
         apply Y1;refine Wq Bc ?_;refine Y0<|Ah<|Ct<|Ys<|Ah<|AWp.block<|Y1<|Wm ?_;refine Wq Dp ?_;refine Wq AT ?_;refine Wa<|Wa<|Y0<|Ah<|Y1 ?_;refine Wq AD ?_;refine Wm ?_;refine Wq (AJ (X)) ?_;refine Wq GT ?_;refine Wm ?_;refine Wg AL ?_;refine Wg (AJ (cD)) ?_;refine Wg AL ?_;refine Wg AO ?_;refine Wq BT ?_;refine Y0<|Cf<|Ys<|Ah<|Y1<|Wm ?_;refine Wq (AJ (s)) ?_;refine Wm ?_;refine Wq (AJ (y)) ?_;refine Wq GT ?_;refine Y0<|Cf<|Ys<|Y1<|Wm ?_;refine Wq Bc ?_;refine Wm ?_;refine Wg AL ?_;refine Wg AL ?_;refine Wg (Jo (ao rfl) (ao rfl) ZbG ZbG) ?_;refine Wg Dp ?_;refine Wg AT ?_;refine Wg AL ?_;refine Wg (AJ (r)) ?_;refine Wg AO ?_;refine Wq Ck ?_;refine Y0<|Cf<|GX<|Bi<|Yn<|AWp.region ?_;refine Wq CJ ?_;refine Wm<|AWl.nil ?_
         refine Ai (l.length-(k+1)) ZbG ⟨k+1,by omega,rfl,xb,rfl⟩ ?_;exact Ac ZdW ZcG
        .rw [Yad λh=>J (by have:=(Z h).2 ZbG; rw [<-xe, <-i, <-U] at this; exact this)]
         apply Y1;refine Wq Bc ?_;refine Y0<|Ah<|Ct<|Ys<|Ah<|AWp.block<|Y1<|Wm ?_;refine Wq Dp ?_;refine Wq AT ?_;refine Wa<|Wa<|Y0<|Ah<|Y1 ?_;refine Wq AD ?_;refine Wm ?_;refine Wq (AJ (X)) ?_;refine Wq GT ?_;refine Wm ?_;refine Wg AL ?_;refine Wg (AJ (cD)) ?_;refine Wg AL ?_;refine Wg AO ?_;refine Wq BT ?_;refine Y0<|Cf<|Ys<|Ah<|Y1<|Wm ?_;refine Wq (AJ (s)) ?_;refine Wm ?_;refine Wq (AJ (y)) ?_;refine Wq GT ?_;refine Y0<|Cf<|Ys<|Y1<|Wm ?_;refine Wq Bc ?_;refine Wm ?_;refine Wg AL ?_;refine Wg AL ?_;refine Wg (Jo (ao rfl) (ao rfl) ZbG ZbG) ?_;refine Wg Dp ?_;refine Wg AT ?_;refine Wg AL ?_;refine Wg (AJ (r)) ?_;refine Wg Bc ?_;refine Wq Ck ?_;refine Y0<|Ct<|Y1<|Wa<|Y0<|BV<|DW<|Dr<|It<|DW<|Dr ?_
         exact Yf
      .rw [Yad n]at y
       rw[Yad λh=>n (F.1 (Z h).1).2];exact Zfx
     .rw [Yad λh=>Y (F.1 (Z h).1).1]
      exact Zfx
    .rw [Yad E]at X
     subst o;rw[Yad λh=>E (Z h).1.1];exact Zfx
   .obtain rfl:k=l.length:=by omega
    rw[Yak (show MA (m:Nat) d l from⟨L,N⟩)];exact Zfx
 .rw [Yad λh:MA (m:Nat) d l=>L h.1]
  refine Ab func152 λw=>?_;rw[ntmps152];exact Zfx
open Classical
theorem Abn{P:(List RTm)->Prop}{F:D}(T:TypeId)(L:List (List RTm))(hF:∀x∈L,FnAbs prog F [Kc x] (ex (.bool (decide (P x)))))(A:L.length<=40000):Abs prog 300 [slD T 1 (L.map λp=>[Kc p]),F] (ex (.bool (decide (∀x∈L,P x)))):=by
 refine Ab func300 λw=>?_;rw[ntmps300];refine Go ?_;refine AF (λv c=>∃k,k<=L.length/\v=L.length-k/\(∀j,j<k->P (L.getD j default))/\c=⟨[(1,.d F),(7,.d (slD T 1 (L.map λp=>[Kc p]))),(8,.d (ex (.int .i64 (L.length:Nat)))),(9,.d (ex (.int .i64 (k:Nat))))],[]⟩) ?le ⟨0,by omega,rfl,λj W=>absurd W (Ybg j),rfl⟩ ?round
 case le=>exact ZjY
 case round=>
  exact Zbn
theorem Abm{P:(List (List RTm))->Prop}{F:D}(T:TypeId)(L:List (List (List RTm)))(hF:∀x∈L,FnAbs prog F [Ic x] (ex (.bool (decide (P x)))))(A:L.length<=40000):Abs prog 255 [slD T 1 (L.map λp=>[Ic p]),F] (ex (.bool (decide (∀x∈L,P x)))):=by
 refine Ab func255 λw=>?_;rw[ntmps255];refine Go ?_;refine AF (λv c=>∃k,k<=L.length/\v=L.length-k/\(∀j,j<k->P (L.getD j default))/\c=⟨[(1,.d F),(7,.d (slD T 1 (L.map λp=>[Ic p]))),(8,.d (ex (.int .i64 (L.length:Nat)))),(9,.d (ex (.int .i64 (k:Nat))))],[]⟩) ?le ⟨0,by omega,rfl,λj W=>absurd W (Ybg j),rfl⟩ ?round
 case le=>exact ZjY
 case round=>
  exact Zbn
theorem A8R{P:(List RQ)->Prop}{F:D}(T:TypeId)(L:List (List RQ))(hF:∀x∈L,FnAbs prog F [GY x] (ex (.bool (decide (P x)))))(A:L.length<=40000):Abs prog 253 [slD T 1 (L.map λp=>[GY p]),F] (ex (.bool (decide (∀x∈L,P x)))):=by
 refine Ab func253 λw=>?_;rw[ntmps253];refine Go ?_;refine AF (λv c=>∃k,k<=L.length/\v=L.length-k/\(∀j,j<k->P (L.getD j default))/\c=⟨[(1,.d F),(7,.d (slD T 1 (L.map λp=>[GY p]))),(8,.d (ex (.int .i64 (L.length:Nat)))),(9,.d (ex (.int .i64 (k:Nat))))],[]⟩) ?le ⟨0,by omega,rfl,λj W=>absurd W (Ybg j),rfl⟩ ?round
 case le=>exact ZjY
 case round=>
  exact Zbn
theorem Abp{P:(Int)->Prop}{F:D}(T:TypeId)(L:List (Int))(hF:∀x∈L,FnAbs prog F [ex (.int .i64 x)] (ex (.bool (decide (P x)))))(A:L.length<=40000):Abs prog 159 [slD T 1 (L.map λz=>[ex (.int .i64 z)]),F] (ex (.bool (decide (∀x∈L,P x)))):=by
 refine Ab func159 λw=>?_;rw[ntmps159];refine Go ?_;refine AF (λv c=>∃k,k<=L.length/\v=L.length-k/\(∀j,j<k->P (L.getD j default))/\c=⟨[(1,.d F),(7,.d (slD T 1 (L.map λz=>[ex (.int .i64 z)]))),(8,.d (ex (.int .i64 (L.length:Nat)))),(9,.d (ex (.int .i64 (k:Nat))))],[]⟩) ?le ⟨0,by omega,rfl,λj W=>absurd W (Ybg j),rfl⟩ ?round
 case le=>exact ZjY
 case round=>
  exact Zbn
theorem Abk{P:(RQ)->Prop}{F:D}(T:TypeId)(L:List (RQ))(hF:∀x∈L,FnAbs prog F [AQ (Hl x)] (ex (.bool (decide (P x)))))(A:L.length<=40000):Abs prog 304 [slD T 4 (L.map Hl),F] (ex (.bool (decide (∀x∈L,P x)))):=by
 refine Ab func304 λw=>?_;rw[ntmps304];refine Go ?_;refine AF (λv c=>∃k,k<=L.length/\v=L.length-k/\(∀j,j<k->P (L.getD j default))/\c=⟨[(1,.d F),(7,.d (slD T 4 (L.map Hl))),(8,.d (ex (.int .i64 (L.length:Nat)))),(9,.d (ex (.int .i64 (k:Nat))))],[]⟩) ?le ⟨0,by omega,rfl,λj W=>absurd W (Ybg j),rfl⟩ ?round
 case le=>exact ZjY
 case round=>
  exact Zbn
theorem Abo{P:(RQ×RQ)->Prop}{F:D}(T:TypeId)(L:List (RQ×RQ))(hF:∀x∈L,FnAbs prog F [AQ (Jk x)] (ex (.bool (decide (P x)))))(A:L.length<=40000):Abs prog 169 [slD T 8 (L.map Jk),F] (ex (.bool (decide (∀x∈L,P x)))):=by
 refine Ab func169 λw=>?_;rw[ntmps169];refine Go ?_;refine AF (λv c=>∃k,k<=L.length/\v=L.length-k/\(∀j,j<k->P (L.getD j default))/\c=⟨[(1,.d F),(7,.d (slD T 8 (L.map Jk))),(8,.d (ex (.int .i64 (L.length:Nat)))),(9,.d (ex (.int .i64 (k:Nat))))],[]⟩) ?le ⟨0,by omega,rfl,λj W=>absurd W (Ybg j),rfl⟩ ?round
 case le=>exact ZjY
 case round=>
  exact Zbn
theorem Abj{P:(RQ×List RTm)->Prop}{F:D}(T:TypeId)(L:List (RQ×List RTm))(hF:∀x∈L,FnAbs prog F [AQ (Jv x)] (ex (.bool (decide (P x)))))(A:L.length<=40000):Abs prog 172 [slD T 5 (L.map Jv),F] (ex (.bool (decide (∀x∈L,P x)))):=by
 refine Ab func172 λw=>?_;rw[ntmps172];refine Go ?_;refine AF (λv c=>∃k,k<=L.length/\v=L.length-k/\(∀j,j<k->P (L.getD j default))/\c=⟨[(1,.d F),(7,.d (slD T 5 (L.map Jv))),(8,.d (ex (.int .i64 (L.length:Nat)))),(9,.d (ex (.int .i64 (k:Nat))))],[]⟩) ?le ⟨0,by omega,rfl,λj W=>absurd W (Ybg j),rfl⟩ ?round
 case le=>exact ZjY
 case round=>
  exact Zbn
theorem Abl{P:(Nat->RQ)->Prop}{F:D}(T:TypeId)(L:List (Nat->RQ))(hF:∀x∈L,FnAbs prog F [AQ (Mq x)] (ex (.bool (decide (P x)))))(A:L.length<=40000):Abs prog 175 [slD T 32 (L.map Mq),F] (ex (.bool (decide (∀x∈L,P x)))):=by
 refine Ab func175 λw=>?_;rw[ntmps175];refine Go ?_;refine AF (λv c=>∃k,k<=L.length/\v=L.length-k/\(∀j,j<k->P (L.getD j default))/\c=⟨[(1,.d F),(7,.d (slD T 32 (L.map Mq))),(8,.d (ex (.int .i64 (L.length:Nat)))),(9,.d (ex (.int .i64 (k:Nat))))],[]⟩) ?le ⟨0,by omega,rfl,λj W=>absurd W (Ybg j),rfl⟩ ?round
 case le=>exact ZjY
 case round=>
  exact Zbn
theorem Abq{P:(Nat->RQ×RQ)->Prop}{F:D}(T:TypeId)(L:List (Nat->RQ×RQ))(hF:∀x∈L,FnAbs prog F [AQ (Dv x)] (ex (.bool (decide (P x)))))(A:L.length<=40000):Abs prog 247 [slD T 64 (L.map Dv),F] (ex (.bool (decide (∀x∈L,P x)))):=by
 refine Ab func247 λw=>?_;rw[ntmps247];refine Go ?_;refine AF (λv c=>∃k,k<=L.length/\v=L.length-k/\(∀j,j<k->P (L.getD j default))/\c=⟨[(1,.d F),(7,.d (slD T 64 (L.map Dv))),(8,.d (ex (.int .i64 (L.length:Nat)))),(9,.d (ex (.int .i64 (k:Nat))))],[]⟩) ?le ⟨0,by omega,rfl,λj W=>absurd W (Ybg j),rfl⟩ ?round
 case le=>exact ZjY
 case round=>
  exact Zbn
def QV(q:RQ):Prop:=QOk q.b q.l q.b' q.l'
noncomputable def Ou (q:RQ):Rat:=(toT ⟨q.b,q.l,q.b',q.l',λ_=>0⟩).c
theorem ZU(h:QV xg):DB (Ou xg)=Hl xg:=by
 have q:=A0i (r:=⟨xg.b,xg.l,xg.b',xg.l',λ_=>0⟩) h;unfold Ou;obtain⟨t,L⟩:∃t,t=toT ⟨xg.b,xg.l,xg.b',xg.l',λ_=>0⟩:=⟨_,rfl⟩;rw[<-L]at q ⊢;have b:=congrArg RTm.b q;have y:=congrArg RTm.l q;have A:=congrArg RTm.b' q;have Y:=congrArg RTm.l' q;simp only[DK]at b y A Y;rw[Hl,A54,<-b,<-y,<-A,<-Y];rfl
def LK(q:Rat):RQ:=⟨decide (q.num<0),Aw q.num.natAbs,decide ((q.den:Int)<0),Aw (q.den:Int).natAbs⟩
theorem Oi(q:Rat):QV (LK q):=⟨q,rfl,rfl,rfl,rfl⟩
theorem OE(q:Rat):Ou (LK q)=q:=congrArg Tm.c (A4C ⟨q,λ_=>0⟩)
theorem QZ.sz(u:QZ xg)(h:QV xg):RSz (Ou xg) 10000:=by
 have q:=A0i (r:=⟨xg.b,xg.l,xg.b',xg.l',λ_=>0⟩) h;have y:=congrArg RTm.l q;have Y:=congrArg RTm.l' q;simp only[DK]at y Y;exact⟨by show(Aw _).length<=_;rw[show Aw (Ou xg).num.natAbs=xg.l from y];exact u.n.n,by show(Aw _).length<=_;rw[show Aw (Ou xg).den=xg.l' from Y];exact u.d.n⟩
theorem Hm(q:RQ)(u:QZ q):Abs prog 251 [AQ (Hl q)] (ex (.bool (decide (QV q)))):=
 RH q.b q.l q.b' q.l' u.n.s u.d.s (by have:=u.n.n;omega) (by have:=u.d.n;omega)
theorem OL(q:RQ)(h:QV q):Abs prog 137 [AQ (Hl q)] (ex (.int .i64 (Ou q).num.sign)):=by
 have:=EL (Ou q);rwa [ZU h]at this
def ZeP(q:RQ):Prop:=QV q/\Ou q=0
def IvP(a:RQ×RQ):Prop:=QV a.1/\QV a.2/\ID (Ou a.1) (Ou a.2)<=0
def VZ(a:RQ×RQ):Prop:=QZ a.1/\QZ a.2
theorem Sl(q:RQ)(u:QZ q):Abs prog 301 [AQ (Hl q)] (ex (.bool (decide (ZeP q)))):=by
 have X:=Hm q u;by_cases h:QV q
 .rw [Yak h]at X
  have K:=OL q h;by_cases d:Ou q=0
  .rw [DI.2 d]at K
   rw[Yak (show ZeP q from⟨h,d⟩)];refine Ab func301 λw=>?_;rw[ntmps301];exact Zfx
  .have Z:(Ou q).num.sign≠0:=λe=>d (DI.1 e)
   rw[Yad λV:ZeP q=>d V.2];refine Ab func301 λw=>?_;rw[ntmps301];exact Zfx
 .rw [Yad h]at X
  rw[Yad λV:ZeP q=>h V.1];refine Ab func301 λw=>?_;rw[ntmps301];exact Zfx
theorem KX(a:RQ×RQ)(u:VZ a):Abs prog 170 [AQ (Jk a)] (ex (.bool (decide (IvP a)))):=by
 have X:=Hm a.1 u.1;have q:=Hm a.2 u.2;by_cases h:QV a.1
 .rw [Yak h]at X
  by_cases A:QV a.2
  .rw [Yak A]at q
   have T:=No (Ou a.1) (Ou a.2) ((u.1.sz h).mono ZbG) ((u.2.sz A).mono ZbG);rw[ZU h,ZU A]at T;obtain⟨z,c⟩:∃z,z=ID (Ou a.1) (Ou a.2):=⟨_,rfl⟩;rw[<-c]at T;by_cases K:z<=0
   .rw [Yak (show IvP a from⟨h,A,c▸K⟩)]
    exact ZiG
   .rw [Yad λV:IvP a=>K (c▸V.2.2)]
    exact ZiG
  .rw [Yad A]at q
   rw[Yad λV:IvP a=>A V.2.1];exact ZiG
 .rw [Yad h]at X
  rw[Yad λV:IvP a=>h V.1];exact ZiG
def SmI(z:Int):Prop:=0<=z/\z<=1000000
def SgP(z:Int):Prop:=-1<=z/\z<=1
theorem Yl(z:Int):Abs prog 157 [ex (.int .i64 z)] (ex (.bool (decide (SmI z)))):=by
 by_cases d:0<=z
 .by_cases q:z<=1000000
  .rw [Yak (show SmI z from⟨d,q⟩)]
   refine Ab func157 λw=>?_;rw[ntmps157];exact Zfx
  .rw [Yad λh:SmI z=>q h.2]
   refine Ab func157 λw=>?_;rw[ntmps157];exact Zfx
 .rw [Yad λh:SmI z=>d h.1]
  refine Ab func157 λw=>?_;rw[ntmps157];exact Zfx
theorem A0u(z:Int):Abs prog 160 [ex (.int .i64 z)] (ex (.bool (decide (SgP z)))):=by
 by_cases d:-1<=z
 .by_cases q:z<=1
  .rw [Yak (show SgP z from⟨d,q⟩)]
   refine Ab func160 λw=>?_;rw[ntmps160];exact Zfx
  .rw [Yad λh:SgP z=>q h.2]
   refine Ab func160 λw=>?_;rw[ntmps160];exact Zfx
 .rw [Yad λh:SgP z=>d h.1]
  refine Ab func160 λw=>?_;rw[ntmps160];exact Zfx
def ShP(l:List RQ):Prop:=l.length<=65/\(∀q∈l,QV q)/\(l.length=0\/Ou (l.getD (l.length-1) default)≠0)
theorem PU(l:List RQ)(T:TypeId)(u:LZ QZ l):Abs prog 252 [slD T 4 (l.map Hl)] (ex (.bool (decide (ShP l)))):=by
 have E:=u.n;by_cases d:l.length<=65
 .have X:=Abk (P:=QV) (F:=ex (.func (.func 251) #[] #[])) T l (λx C=>FnAbs.ex (Hm x (u.e x C))) E
  by_cases A:∀q∈l,QV q
  .rw [Yak A]at X
   by_cases B:l.length=0
   .rw [Yak (show ShP l from⟨d,A,.inl B⟩)]
    refine Ab func252 λw=>?_;rw[ntmps252];exact Zfx
   .have k:=A _ (BF (l:=l) (k:=l.length-1) ZbG)
    have F:=OL _ k;by_cases K:Ou (l.getD (l.length-1) default)=0
    .rw [DI.2 K]at F
     rw[Yad λh:ShP l=>h.2.2.elim B λh=>h K];refine Ab func252 λw=>?_;rw[ntmps252];refine Y1<|Wa<|Y0<|Y1<|Wm ?_;refine Wq BK ?_;refine Wa<|Y0<|Y1<|Wm ?_;refine Wq A2A ?_;refine Wq Bc ?_;refine Wm ?_;refine Wg AL ?_;refine Wg (AJ (X)) ?_;refine Wq Ck ?_;refine Wm ?_;refine Wg AL ?_;refine Wg AO ?_;refine Wg AL ?_;refine Wg AL ?_;refine Wg AL ?_;refine Wg (Jo (ao rfl) (ao rfl) ZbG ZbG) ?_;refine Wg Dp ?_;refine Wg Cb ?_;refine Wg (AJ (F)) ?_;refine Wg AO ?_;refine Wg BT ?_;refine Wq Ck ?_;refine Wa<|Y0<|BV ?_
     exact Yf
    .have Z:(Ou (l.getD (l.length-1) default)).num.sign≠0:=λe=>K (DI.1 e)
     rw[Yak (show ShP l from⟨d,A,.inr K⟩)];refine Ab func252 λw=>?_;rw[ntmps252];refine Y1<|Wa<|Y0<|Y1<|Wm ?_;refine Wq BK ?_;refine Wa<|Y0<|Y1<|Wm ?_;refine Wq A2A ?_;refine Wq Bc ?_;refine Wm ?_;refine Wg AL ?_;refine Wg (AJ (X)) ?_;refine Wq Ck ?_;refine Wm ?_;refine Wg AL ?_;refine Wg AO ?_;refine Wg AL ?_;refine Wg AL ?_;refine Wg AL ?_;refine Wg (Jo (ao rfl) (ao rfl) ZbG ZbG) ?_;refine Wg Dp ?_;refine Wg Cb ?_;refine Wg (AJ (F)) ?_;refine Wg Bc ?_;refine Wg BT ?_;refine Wq Ck ?_;refine Wa<|Y0<|BV ?_
     exact Yf
  .rw [Yad A]at X
   rw[Yad λh:ShP l=>A h.2.1];refine Ab func252 λw=>?_;rw[ntmps252];exact Zfx
 .rw [Yad λh:ShP l=>d h.1]
  refine Ab func252 λw=>?_;rw[ntmps252];exact Zfx
theorem OB(k:Cor)(u:CZ k):Abs prog 76 [AQ (Ec k)] (ex (.bool (decide (On k)))):=by
 obtain⟨n,e,f⟩:=k;by_cases q:1<=n
 .by_cases Y:n<=4
  .obtain ⟨m, rfl⟩:∃m:Nat, n=(m:Int):=⟨n.toNat, by omega⟩
   have X:=Ru m ⟨by omega,by omega⟩ e f e 0 u.e;have K:=Ru m ⟨by omega,by omega⟩ e f f 1 u.f;by_cases Z:MA (m:Nat) 0 e
   .rw [Yak Z]at X
    by_cases L:MA (m:Nat) 1 f
    .rw [Yak L]at K
     rw[Yak (show On ⟨(m:Nat),e,f⟩from⟨q,Y,Z,L⟩)];exact Zia
    .rw [Yad L]at K
     rw[Yad λh:On ⟨(m:Nat),e,f⟩=>L h.2.2.2];exact Zia
   .rw [Yad Z]at X
    rw[Yad λh:On ⟨(m:Nat),e,f⟩=>Z h.2.2.1];exact Zia
  .rw [Yad λh:On ⟨n,e,f⟩=>Y h.2.1]
   exact Zia
 .rw [Yad λh:On ⟨n,e,f⟩=>q h.1]
  exact Zia
theorem UO(k:Cor)(u:CZ k):Abs prog 32 [AQ (Ec k)] (ex (.bool (decide (On k)))):=by
 refine Ab func32 λw=>?_;rw[ntmps32];have H:=OB k u;exact Zfx
def NV(k:Cor):Prop:=1<=k.n/\k.n<=4
theorem Wp(k:Cor)(B:NV k)(p:List RTm)(d:Int)(G:PZ p):Abs prog 154 [AQ (Ec k),Kc p,ex (.int .i64 d)] (ex (.bool (decide (Va k.n d p)))):=by
 obtain⟨n,e,f⟩:=k;obtain⟨m,rfl⟩:∃m:Nat,n=(m:Int):=⟨n.toNat,by have:=B.1;have:1<=n:=this;omega⟩;exact Qd m ⟨by have:=B.1;have:1<=((m:Nat):Int):=this;omega,by have:=B.2;have:((m:Nat):Int)<=4:=this;omega⟩ e f p d G
theorem A2j(k:Cor)(B:NV k)(p:List RTm)(G:PZ p):Abs prog 254 [AQ (Ec k),Kc p] (ex (.bool (decide (Va k.n 64 p)))):=by
 refine Ab func254 λw=>?_;rw[ntmps254];have P:=Wp k B p 64 G;exact Zfx
def MD(n:Int)(l:List (List RTm)):Prop:=∀p∈l,Va n 64 p
theorem Su(k:Cor)(B:NV k)(l:List (List RTm))(u:LZ PZ l):Abs prog 246 [AQ (Ec k),Ic l] (ex (.bool (decide (MD k.n l)))):=by
 have X:=Abn (P:=Va k.n 64) (F:=fvD 254 [AQ (Ec k)] []) 28 l (λx C=>Lz (A2j k B x (u.e x C))) u.n;refine Ab func246 λw=>?_;rw[ntmps246];refine Go ?_;refine Wq (Lu Zcv Zdu) ?_;refine Go ?_;exact AA (Am (ResV.tmp rfl rfl) (Ae (congrArg (λb=>ex (.bool b)) (YcL.2 YdG))))
def Jq(n:Int)(l:List (List RTm)):Prop:=l.length<=64/\MD n l
theorem Sj(k:Cor)(B:NV k)(l:List (List RTm))(u:LZ PZ l):Abs prog 156 [AQ (Ec k),Ic l] (ex (.bool (decide (Jq k.n l)))):=by
 have C:=u.n;have X:=Su k B l u;by_cases q:l.length<=64
 .by_cases A:MD k.n l
  .rw [Yak A]at X
   rw[Yak (show Jq k.n l from⟨q,A⟩)];refine Ab func156 λw=>?_;rw[ntmps156];exact Zfx
  .rw [Yad A]at X
   rw[Yad λh:Jq k.n l=>A h.2];refine Ab func156 λw=>?_;rw[ntmps156];exact Zfx
 .rw [Yad λh:Jq k.n l=>q h.1]
  refine Ab func156 λw=>?_;rw[ntmps156];exact Zfx
def A0P(n:Int)(c:Int)(l:List (List RTm)):Prop:=(l.length:Int)=c/\MD n l
def JA(n:Int)(r c:Int)(t:List (List (List RTm))):Prop:=(t.length:Int)=r/\∀l∈t,A0P n c l
theorem A7h(k:Cor)(B:NV k)(c:Int)(l:List (List RTm))(u:LZ PZ l):Abs prog 256 [Ic l,Fg 3 [ex (.int .i64 c)],Fg 139 (Ec k)] (ex (.bool (decide (A0P k.n c l)))):=by
 have C:=u.n;have X:=Su k B l u;by_cases q:(l.length:Int)=c
 .subst q
  by_cases A:MD k.n l
  .rw [Yak A]at X
   rw[Yak (show A0P k.n (l.length:Nat) l from⟨rfl,A⟩)];refine Ab func256 λw=>?_;rw[ntmps256];exact Zfx
  .rw [Yad A]at X
   rw[Yad λh:A0P k.n (l.length:Nat) l=>A h.2];refine Ab func256 λw=>?_;rw[ntmps256];exact Zfx
 .rw [Yad λh:A0P k.n c l=>q h.1]
  refine Ab func256 λw=>?_;rw[ntmps256];exact Zfx
theorem JE(k:Cor)(B:NV k)(r c:Int)(t:List (List (List RTm)))(u:LZ (LZ PZ) t):Abs prog 174 [AQ (Ec k),Tu t,ex (.int .i64 r),ex (.int .i64 c)] (ex (.bool (decide (JA k.n r c t)))):=by
 have E:=u.n;have X:=Abm (P:=A0P k.n c) (F:=fvD 256 [] [Fg 3 [ex (.int .i64 c)],Fg 139 (Ec k)]) 24 t (λx C=>Lz (A7h k B c x (u.e x C))) u.n;by_cases q:(t.length:Int)=r
 .subst q
  by_cases A:∀l∈t,A0P k.n c l
  .rw [Yak A]at X
   rw[Yak (show JA k.n (t.length:Nat) c t from⟨rfl,A⟩)];refine Ab func174 λw=>?_;rw[ntmps174];apply Y1;refine Bx ?_;refine Xf (ao rfl) rfl rfl rfl rfl rfl ?_;refine Wa<|Y0 ?_;refine CL 0 4 rfl rfl rfl ?_;refine CL (ds:=[_]) 1 7 rfl rfl rfl ?_;refine Y1<|Wm ?_;refine Wq BK ?_;refine Wm ?_;refine Wq Bc ?_;refine Wm ?_;refine Wg AL ?_;refine Wg (Lu Zdu ZdV) ?_;refine Wg (AJ (X)) ?_;refine Wq Ck ?_;refine Wa<|Y0<|BV ?_
   exact Yf
  .rw [Yad A]at X
   rw[Yad λh:JA k.n (t.length:Nat) c t=>A h.2];refine Ab func174 λw=>?_;rw[ntmps174];apply Y1;refine Bx ?_;refine Xf (ao rfl) rfl rfl rfl rfl rfl ?_;refine Wa<|Y0 ?_;refine CL 0 4 rfl rfl rfl ?_;refine CL (ds:=[_]) 1 7 rfl rfl rfl ?_;refine Y1<|Wm ?_;refine Wq BK ?_;refine Wm ?_;refine Wq Bc ?_;refine Wm ?_;refine Wg AL ?_;refine Wg (Lu Zdu ZdV) ?_;refine Wg (AJ (X)) ?_;refine Wq Ck ?_;refine Wa<|Y0<|BV ?_
   exact Yf
 .rw [Yad λh:JA k.n r c t=>q h.1]
  refine Ab func174 λw=>?_;rw[ntmps174];exact Zfx
def SqP(n:Int)(s:RQ×List RTm):Prop:=QV s.1/\Va n 64 s.2
def SZ(s:RQ×List RTm):Prop:=QZ s.1/\PZ s.2
theorem ZY(k:Cor)(B:NV k)(s:RQ×List RTm)(u:SZ s):Abs prog 173 [AQ (Ec k),AQ (Jv s)] (ex (.bool (decide (SqP k.n s)))):=by
 have X:=Hm s.1 u.1;have K:=A2j k B s.2 u.2;by_cases q:QV s.1
 .rw [Yak q]at X
  by_cases A:Va k.n 64 s.2
  .rw [Yak A]at K
   rw[Yak (show SqP k.n s from⟨q,A⟩)];refine Ab func173 λw=>?_;rw[ntmps173];exact Zfx
  .rw [Yad A]at K
   rw[Yad λh:SqP k.n s=>A h.2];refine Ab func173 λw=>?_;rw[ntmps173];exact Zfx
 .rw [Yad q]at X
  rw[Yad λh:SqP k.n s=>q h.1];refine Ab func173 λw=>?_;rw[ntmps173];exact Zfx
def A6V(n:Int)(f:Nat->RQ×RQ)(i:Nat):Prop:=((i:Int)<n->IvP (f i))/\(n<=(i:Int)->ZeP (f i).1/\ZeP (f i).2)
def BxP(n:Int)(f:Nat->RQ×RQ):Prop:=∀i,i<8->A6V n f i
theorem A86(k:Cor)(g:Nat->RQ×RQ)(u:Gp VZ g):Abs prog 248 [AQ (Ec k),AQ (Dv g)] (ex (.bool (decide (BxP k.n g)))):=by
 obtain⟨n,e,f⟩:=k;refine Ab func248 λw=>?_;rw[ntmps248];refine Go ?_;refine AF (λv c=>∃k,k<=8/\v=8-k/\(∀j,j<k->A6V n g j)/\c=⟨[(2,.ptr 0 0),(7,.d (AQ (Dv g))),(8,.d (ex (.int .i64 (k:Nat))))],[.var 139 ((Ec ⟨n,e,f⟩).map .d)]⟩) ?le ⟨0,by omega,rfl,λj W=>absurd W (Ybg j),rfl⟩ ?round
 case le=>exact Ac Zck ZcG
 case round=>
  rintro v _ ⟨k,B,rfl,x,rfl⟩;by_cases O:k<8
  .have r:=u k O
   have E:A6V n g k->∀j,j<k+1->A6V n g j:=λh j W=>by
    rcases YaD j k with V | V
    .exact x j V
    .obtain rfl:j=k:=by omega
     exact h
   by_cases F:(k:Int)<n
   .have X:=KX (g k) r
    by_cases q:IvP (g k)
    .rw [Yak q]at X
     have C:=E ⟨λ_=>q,λh=>absurd h ZbG⟩;exact Zjr
    .rw [Yad q]at X
     rw[Yad λh:BxP n g=>q ((h k O).1 F)];exact Ziz
   .have X:=Sl (g k).1 r.1
    have K:=Sl (g k).2 r.2;by_cases q:ZeP (g k).1
    .rw [Yak q]at X
     by_cases A:ZeP (g k).2
     .rw [Yak A]at K
      have C:=E ⟨λh=>absurd h F,λ_=>⟨q,A⟩⟩;exact Zjr
     .rw [Yad A]at K
      rw[Yad λh:BxP n g=>A ((h k O).2 ZbG).2];exact Ziz
    .rw [Yad q]at X
     rw[Yad λh:BxP n g=>q ((h k O).2 ZbG).1];exact Ziz
  .obtain rfl:k=8:=by omega
   rw[Yak (show BxP n g from x)];exact Zfx
def Tn(n:Int)(l:List (Nat->RQ×RQ)):Prop:=l.length<=64/\∀g∈l,BxP n g
theorem UH(k:Cor)(l:List (Nat->RQ×RQ))(u:LZ (Gp VZ) l):Abs prog 158 [AQ (Ec k),FX l] (ex (.bool (decide (Tn k.n l)))):=by
 have B:=u.n;have X:=Abq (P:=BxP k.n) (F:=fvD 248 [AQ (Ec k)] []) 131 l (λx C=>Lz (A86 k x (u.e x C))) u.n;by_cases q:l.length<=64
 .by_cases A:∀g∈l,BxP k.n g
  .rw [Yak A]at X
   rw[Yak (show Tn k.n l from⟨q,A⟩)];refine Ab func158 λw=>?_;rw[ntmps158];refine Go ?_;refine Wg (Lu Zcv Zdu) ?_;exact Zfx
  .rw [Yad A]at X
   rw[Yad λh:Tn k.n l=>A h.2];refine Ab func158 λw=>?_;rw[ntmps158];refine Go ?_;refine Wg (Lu Zcv Zdu) ?_;exact Zfx
 .rw [Yad λh:Tn k.n l=>q h.1]
  refine Ab func158 λw=>?_;rw[ntmps158];exact Zfx
def A8h(n:Int)(x:Nat->RQ)(i:Nat):Prop:=QV (x i)/\(n<=(i:Int)->Ou (x i)=0)
def PtP(n:Int)(x:Nat->RQ):Prop:=∀i,i<8->A8h n x i
theorem A30(k:Cor)(x:Nat->RQ)(u:Gp QZ x):Abs prog 176 [AQ (Ec k),AQ (Mq x)] (ex (.bool (decide (PtP k.n x)))):=by
 obtain⟨n,e,f⟩:=k;refine Ab func176 λw=>?_;rw[ntmps176];refine Go ?_;refine AF (λv c=>∃k,k<=8/\v=8-k/\(∀j,j<k->A8h n x j)/\c=⟨[(2,.ptr 0 0),(7,.d (AQ (Mq x))),(8,.d (ex (.int .i64 (k:Nat))))],[.var 139 ((Ec ⟨n,e,f⟩).map .d)]⟩) ?le ⟨0,by omega,rfl,λj W=>absurd W (Ybg j),rfl⟩ ?round
 case le=>exact Ac Zck ZcG
 case round=>
  rintro v _ ⟨k,B,rfl,E,rfl⟩;by_cases O:k<8
  .have X:=Hm (x k) (u k O)
   have F:A8h n x k->∀j,j<k+1->A8h n x j:=λh j W=>by
    rcases YaD j k with V | V
    .exact E j V
    .obtain rfl:j=k:=by omega
     exact h
   by_cases q:QV (x k)
   .rw [Yak q]at X
    by_cases G:(k:Int)<n
    .have C:=F ⟨q, λh=>absurd h ZbG⟩
     exact Zjr
    .have K:=OL (x k) q
     by_cases A:Ou (x k)=0
     .rw [DI.2 A]at K
      have C:=F ⟨q,λ_=>A⟩;exact Zjr
     .have Z:(Ou (x k)).num.sign≠0:=λe=>A (DI.1 e)
      rw[Yad λh:PtP n x=>A ((h k O).2 ZbG)];exact Ziz
   .rw [Yad q]at X
    rw[Yad λh:PtP n x=>q (h k O).1];exact Ziz
  .obtain rfl:k=8:=by omega
   rw[Yak (show PtP n x from E)];exact Zfx
theorem CellAt.up8{f:Nat->List RQ}(h:n<8):CellAt ((up8 f).drop (n*1)) 0 (GY (f n)):=by
 rcases lt8 h with rfl | rfl | rfl | rfl | rfl | rfl | rfl | rfl<;>exact⟨YbZ _,rfl⟩
def A6g(n:Int)(r:Rsl)(i:Nat):Prop:=-1000000<=r.l i/\r.l i<=1000000/\(n<=(i:Int)->r.l i=0/\(r.r i).length=0)
def Wx(n:Int)(r:Rsl):Prop:=ShP r.q/\(∀i,i<8->ShP (r.r i))/\∀i,i<8->A6g n r i
structure RZ(r:Rsl):Prop where
 l:Gp IW r.l
 q:LZ QZ r.q
 r:Gp (LZ QZ) r.r
theorem A9u{x:e}(h:x∈[uV 0,uV 1,uV 2,uV 3,uV 4,uV 5,uV 6,uV 7]):∃i,i<8/\x=uV i:=by
 simp only[YaM,YeB,or_false]at h;rcases h with h | h | h | h | h | h | h | h
 .exact ⟨0,by omega,h⟩
 .exact ⟨1,by omega,h⟩
 .exact ⟨2,by omega,h⟩
 .exact ⟨3,by omega,h⟩
 .exact ⟨4,by omega,h⟩
 .exact ⟨5,by omega,h⟩
 .exact ⟨6,by omega,h⟩
 .exact ⟨7,by omega,h⟩
theorem A8I(h:n<8):uV n∈[uV 0,uV 1,uV 2,uV 3,uV 4,uV 5,uV 6,uV 7]:=by
 match n,h with
 |0,_ |1,_ |2,_ |3,_ |4,_ |5,_ |6,_ |7,_=>simp
theorem TG(k:Cor)(r:Rsl)(u:RZ r):Abs prog 171 [AQ (Ec k),AQ (RE r)] (ex (.bool (decide (Wx k.n r)))):=by
 obtain⟨n,e,f⟩:=k;have X:=PU r.q 111 u.q;by_cases q:ShP r.q
 .rw [Yak q]at X
  have K:=A8R (P:=ShP) (F:=ex (.func (.func 252) #[] #[])) 41 [r.r 0,r.r 1,r.r 2,r.r 3,r.r 4,r.r 5,r.r 6,r.r 7] (λx C=>by
   obtain⟨i,J,rfl⟩:=A9u C;exact FnAbs.ex (PU (r.r i) 111 (u.r i J))) ZbV
  by_cases A:∀l∈[r.r 0,r.r 1,r.r 2,r.r 3,r.r 4,r.r 5,r.r 6,r.r 7],ShP l
  .rw [Yak A]at K
   have N:∀i,i<8->ShP (r.r i):=λi J=>A _ (A8I J);refine Ab func171 λw=>?_;rw[ntmps171];apply Y1;refine Bx ?_;refine Bx ?_;refine Wa<|Y0 ?_;refine CL 1 3 rfl rfl rfl ?_;refine Ah<|Y1 ?_;refine Wq AG ?_;refine Wq AT ?_;refine Wq (AJ (X)) ?_;refine Wq GT ?_;refine Wm ?_;refine Wg AG ?_;refine Wg (A1b (ao rfl) (Aa rfl) (Aa rfl) rfl ZbG) ?_;refine Wg (AJ (K)) ?_;refine Wg GT ?_;refine Wq BT ?_;refine Y0<|Cf<|Ys<|Ah<|Y1 ?_;refine Wq AG ?_;refine Wq Fc ?_;refine Wm<|Y0<|AWp.block ?_
   refine AF (λv c=>∃k,k<=8/\v=8-k/\(∀j,j<k->A6g n r j)/\c=⟨[(2,.ptr 0 0),(3,.d (Fg 41 (RE r))),(18,.d (AQ (CE r.l))),(19,.d (ex (.int .i64 (k:Nat))))],[.var 139 ((Ec ⟨n,e,f⟩).map .d)]⟩) ?le ⟨0,by omega,rfl,λj W=>absurd W (Ybg j),rfl⟩ ?round
   case le=>exact Ac Zdg ZcG
   case round=>
    rintro v _ ⟨k,B,rfl,F,rfl⟩;by_cases O:k<8
    .have L:A6g n r k->∀j,j<k+1->A6g n r j:=λh j W=>by
      rcases YaD j k with V | V
      .exact F j V
      .obtain rfl:j=k:=by omega
       exact h
     have M:¬A6g n r k->¬Wx n r:=λh V=>h (V.2.2 k O);by_cases o:-1000000<=r.l k
     .by_cases G:r.l k<=1000000
      .by_cases Z:(k:Int)<n
       .have E:=L ⟨o, G, λh=>absurd h ZbG⟩
        apply Y1;refine Wq Bc ?_;refine Y0<|Ah<|Ct<|Ys<|Ah<|AWp.block<|Y1<|Wm ?_;refine Wq (Gj (ao rfl) (ao rfl) (Aa rfl) (Aa rfl) rfl O (CellAt.mon O)) ?_;refine Wa<|Wa<|Y0<|Y1<|Wm ?_;refine Wq AO ?_;refine Wm ?_;refine Wg AL ?_;refine Wg AO ?_;refine Wq BT ?_;refine Wm ?_;refine Wg AL ?_;refine Wg AC ?_;refine Wg AC ?_;refine Wg Ao ?_;refine Wg AO ?_;refine Wg AL ?_;refine Ws ?_;refine Ws ?_;refine Ws ?_;refine Ws ?_;refine Ws ?_;refine Ws ?_;refine Ws ?_;refine Ws ?_;refine Ws ?_;refine Ws ?_;refine Wg BT ?_;refine Wq BT ?_;refine Y0<|Cf<|GX<|Bi<|Yn<|AWp.region ?_;refine Wq CJ ?_;refine Wm<|AWl.nil ?_
        refine Ai (8-(k+1)) ZbG ⟨k+1,by omega,rfl,E,rfl⟩ ?_;exact Ac Zdg ZcG
       .by_cases Q:r.l k=0
        .by_cases S:(r.r k).length=0
         .have E:=L ⟨o,G,λ_=>⟨Q,S⟩⟩
          apply Y1;refine Wq Bc ?_;refine Y0<|Ah<|Ct<|Ys<|Ah<|AWp.block<|Y1<|Wm ?_;refine Wq (Gj (ao rfl) (ao rfl) (Aa rfl) (Aa rfl) rfl O (CellAt.mon O)) ?_;refine Wa<|Wa<|Y0<|Y1<|Wm ?_;refine Wq AO ?_;refine Wm ?_;refine Wg AL ?_;refine Wg AO ?_;refine Wq BT ?_;refine Wm ?_;refine Wg AL ?_;refine Wg AC ?_;refine Wg AC ?_;refine Wg Ao ?_;refine Wg Bc ?_;refine Wg AL ?_;refine Wg AL ?_;refine Wg AO ?_;refine Wg AL ?_;refine Wg AL ?_;refine Wg AG ?_;refine Wg A0Z ?_;refine Wg (HL (ao rfl) (Aa rfl) rfl (CellAt.up8 O)) ?_;refine Wg BK ?_;refine Wg AO ?_;refine Wg BT ?_;refine Wg Ck ?_;refine Wq BT ?_;refine Y0<|Cf<|GX<|Bi<|Yn<|AWp.region ?_;refine Wq CJ ?_;refine Wm<|AWl.nil ?_
          refine Ai (8-(k+1)) ZbG ⟨k+1,by omega,rfl,E,rfl⟩ ?_;exact Ac Zdg ZcG
         .rw [Yad (M λh=>S (h.2.2 ZbG).2)]
          apply Y1;refine Wq Bc ?_;refine Y0<|Ah<|Ct<|Ys<|Ah<|AWp.block<|Y1<|Wm ?_;refine Wq (Gj (ao rfl) (ao rfl) (Aa rfl) (Aa rfl) rfl O (CellAt.mon O)) ?_;refine Wa<|Wa<|Y0<|Y1<|Wm ?_;refine Wq AO ?_;refine Wm ?_;refine Wg AL ?_;refine Wg AO ?_;refine Wq BT ?_;refine Wm ?_;refine Wg AL ?_;refine Wg AC ?_;refine Wg AC ?_;refine Wg Ao ?_;refine Wg Bc ?_;refine Wg AL ?_;refine Wg AL ?_;refine Wg AO ?_;refine Wg AL ?_;refine Wg AL ?_;refine Wg AG ?_;refine Wg A0Z ?_;refine Wg (HL (ao rfl) (Aa rfl) rfl (CellAt.up8 O)) ?_;refine Wg BK ?_;refine Wg Bc ?_;refine Wg BT ?_;refine Wg Ck ?_;refine Wq BT ?_;refine Y0<|Ct<|Y1<|Wa<|Y0<|BV<|DW<|Dr<|It<|DW<|Dr ?_
          exact Yf
        .rw [Yad (M λh=>Q (h.2.2 ZbG).1)]
         apply Y1;refine Wq Bc ?_;refine Y0<|Ah<|Ct<|Ys<|Ah<|AWp.block<|Y1<|Wm ?_;refine Wq (Gj (ao rfl) (ao rfl) (Aa rfl) (Aa rfl) rfl O (CellAt.mon O)) ?_;refine Wa<|Wa<|Y0<|Y1<|Wm ?_;refine Wq AO ?_;refine Wm ?_;refine Wg AL ?_;refine Wg AO ?_;refine Wq BT ?_;refine Wm ?_;refine Wg AL ?_;refine Wg AC ?_;refine Wg AC ?_;refine Wg Ao ?_;refine Wg Bc ?_;refine Wg AL ?_;refine Wg AL ?_;refine Wg Bc ?_;refine Wg AL ?_;refine Ws ?_;refine Ws ?_;refine Ws ?_;refine Ws ?_;refine Ws ?_;refine Ws ?_;refine Wg Ck ?_;refine Wg Ck ?_;refine Wq BT ?_;refine Y0<|Ct<|Y1<|Wa<|Y0<|BV<|DW<|Dr<|It<|DW<|Dr ?_
         exact Yf
      .rw [Yad (M λh=>G h.2.1)]
       apply Y1;refine Wq Bc ?_;refine Y0<|Ah<|Ct<|Ys<|Ah<|AWp.block<|Y1<|Wm ?_;refine Wq (Gj (ao rfl) (ao rfl) (Aa rfl) (Aa rfl) rfl O (CellAt.mon O)) ?_;refine Wa<|Wa<|Y0<|Y1<|Wm ?_;refine Wq AO ?_;refine Wm ?_;refine Wg AL ?_;refine Wg Bc ?_;refine Wq BT ?_;refine Wm ?_;refine Ws ?_;refine Ws ?_;refine Ws ?_;refine Ws ?_;refine Ws ?_;refine Ws ?_;refine Ws ?_;refine Ws ?_;refine Ws ?_;refine Ws ?_;refine Ws ?_;refine Ws ?_;refine Ws ?_;refine Ws ?_;refine Ws ?_;refine Ws ?_;refine Ws ?_;refine Wq Ck ?_;refine Y0<|Ct<|Y1<|Wa<|Y0<|BV<|DW<|Dr<|It<|DW<|Dr ?_
       exact Yf
     .rw [Yad (M λh=>o h.1)]
      apply Y1;refine Wq Bc ?_;refine Y0<|Ah<|Ct<|Ys<|Ah<|AWp.block<|Y1<|Wm ?_;refine Wq (Gj (ao rfl) (ao rfl) (Aa rfl) (Aa rfl) rfl O (CellAt.mon O)) ?_;refine Wa<|Wa<|Y0<|Y1<|Wm ?_;refine Wq Bc ?_;refine Wm ?_;refine Ws ?_;refine Ws ?_;refine Wq Ck ?_;refine Wm ?_;refine Ws ?_;refine Ws ?_;refine Ws ?_;refine Ws ?_;refine Ws ?_;refine Ws ?_;refine Ws ?_;refine Ws ?_;refine Ws ?_;refine Ws ?_;refine Ws ?_;refine Ws ?_;refine Ws ?_;refine Ws ?_;refine Ws ?_;refine Ws ?_;refine Ws ?_;refine Wq Ck ?_;refine Y0<|Ct<|Y1<|Wa<|Y0<|BV<|DW<|Dr<|It<|DW<|Dr ?_
      exact Yf
    .obtain rfl:k=8:=by omega
     rw[Yak (show Wx n r from⟨q,N,F⟩)];exact Zfx
  .rw [Yad A]at K
   rw[Yad λh:Wx n r=>A λl I=>by obtain⟨i,J,rfl⟩:=A9u I;exact h.2.1 i J];refine Ab func171 λw=>?_;rw[ntmps171];apply Y1;refine Bx ?_;refine Bx ?_;refine Wa<|Y0 ?_;refine CL 1 3 rfl rfl rfl ?_;refine Ah<|Y1 ?_;refine Wq AG ?_;refine Wq AT ?_;refine Wq (AJ (X)) ?_;refine Wq GT ?_;refine Wm ?_;refine Wg AG ?_;refine Wg (A1b (ao rfl) (Aa rfl) (Aa rfl) rfl ZbG) ?_;refine Wg (AJ (K)) ?_;refine Wg GT ?_;refine Wq BT ?_;refine Y0<|Ct<|Y1<|Wa<|Y0<|BV<|Dr ?_
   exact Yf
 .rw [Yad q]at X
  rw[Yad λh:Wx n r=>q h.1];refine Ab func171 λw=>?_;rw[ntmps171];exact Zfx
def FY(c:Clm):Bool:=c.kind==0&&c.n==0&&c.d==0&&c.r==0&&((c.p.length:Nat):Int)==0&&((c.o.length:Nat):Int)==0&&((c.l.length:Nat):Int)==0&&((c.s.length:Nat):Int)==0&&((c.b.length:Nat):Int)==0
theorem UI(c:Clm):Abs prog 161 [AQ (ED c)] (ex (.bool (FY c))):=by
 refine Ab func161 λw=>?_;rw[ntmps161];apply Y1;refine Bx ?_;refine Wa<|Y0 ?_;refine CL 0 1 rfl rfl rfl ?_;apply Y1;refine Wq AG ?_;refine Wq AT ?_;refine Wq Ci ?_;refine Wm ?_;refine EF (λR=>AG) ?_;refine CF 7 rfl (λR=>AT) ?_;refine CF 8 rfl (λR=>Ci) ?_;refine Wq CO ?_;refine Wm ?_;refine EF (λR=>AG) ?_;refine CF 12 rfl (λR=>AT) ?_;refine CF 13 rfl (λR=>Ci) ?_;refine Wq CO ?_;refine Wm ?_;refine EF (λR=>AG) ?_;refine CF 17 rfl (λR=>AT) ?_;refine CF 18 rfl (λR=>Ci) ?_;refine Wq CO ?_;refine Wm ?_;refine EF (λR=>AG) ?_;refine CF 22 rfl (λR=>AT) ?_;refine CF 23 rfl (λR=>BK) ?_;refine CF 24 rfl (λR=>Ci) ?_;refine Wq CO ?_;refine Wm ?_;refine EF (λR=>AG) ?_;refine CF 28 rfl (λR=>AT) ?_;refine CF 29 rfl (λR=>BK) ?_;refine CF 30 rfl (λR=>Ci) ?_;refine Wq CO ?_;refine Wm ?_;refine EF (λR=>AG) ?_;refine CF 34 rfl (λR=>AT) ?_;refine CF 35 rfl (λR=>BK) ?_;refine CF 36 rfl (λR=>Ci) ?_;refine Wq CO ?_;refine Wm ?_;refine EF (λR=>AG) ?_;refine CF 40 rfl (λR=>AT) ?_;refine CF 41 rfl (λR=>BK) ?_;refine CF 42 rfl (λR=>Ci) ?_;refine Wq CO ?_;refine Wm ?_;refine EF (λR=>AG) ?_;refine CF 46 rfl (λR=>AT) ?_;refine CF 47 rfl (λR=>BK) ?_;refine CF 48 rfl (λR=>Ci) ?_;refine Wq CO ?_;refine Wa<|Y0<|BV ?_
 exact Yf
structure ClZ(c:Clm):Prop where
 kind:IW c.kind
 p:PZ c.p
 n:IW c.n
 d:IW c.d
 r:IW c.r
 o:LZ (Gp IW) c.o
 l:LZ PZ c.l
 s:LZ IW c.s
 b:LZ (Gp VZ) c.b
def Dd(k:Cor)(c:Clm):Prop:=
 if c.kind=1\/c.kind=2\/c.kind=10 then Va k.n 12 c.p/\(c.n=0/\c.d=0/\c.r=0)/\c.o=[]/\c.l=[]/\c.s=[]/\c.b=[]
 else if c.kind=3\/c.kind=9 then(c.n=0/\c.d=0/\c.r=0)/\c.p=[]/\c.o=[]/\c.l=[]/\c.s=[]/\c.b=[]
 else if c.kind=4 then(OValid c.o/\Jq k.n c.l)/\(c.n=0/\c.d=0/\c.r=0)/\c.p=[]/\c.s=[]/\c.b=[]
 else if c.kind=5 then(-1<=c.d/\c.d<=k.n/\SmI c.n)/\c.r=0/\c.p=[]/\c.o=[]/\c.l=[]/\c.s=[]/\c.b=[]
 else if c.kind=6 then(0<=c.r/\c.r<=c.d/\c.d<=c.n/\SmI c.n)/\c.p=[]/\c.o=[]/\c.l=[]/\c.s=[]/\c.b=[]
 else if c.kind=7 then Tn k.n c.b/\(c.n=0/\c.d=0/\c.r=0)/\c.p=[]/\c.o=[]/\c.l=[]/\c.s=[]
 else if c.kind=8 then(Va k.n 12 c.p/\Tn k.n c.b/\c.s.length=c.b.length/\∀z∈c.s,SgP z)/\(c.n=0/\c.d=0/\c.r=0)/\c.o=[]/\c.l=[]
 else if c.kind=11 then Jq k.n c.l/\(c.n=0/\c.d=0/\c.r=0)/\c.p=[]/\c.o=[]/\c.s=[]/\c.b=[]
 else if c.kind=12\/c.kind=13 then SmI c.n/\(c.d=0/\c.r=0)/\c.p=[]/\c.o=[]/\c.l=[]/\c.s=[]/\c.b=[]
 else False
def Pp(k:Cor)(c:Clm):Prop:=On k/\Dd k c
theorem RO(R:List (Nat->Int)):Abs prog 155 [Du R] (ex (.bool (decide (OValid R)))):=by
 refine BH (Ag func155 ZbK ZbK) λs J C I r=>?_;rw[vs1 I];exact(A0k (J.getD 0 undef) R s.w (A32 (r 0 ZbV))).mono λe M ⟨a,Q⟩=>⟨_,a,Q,λj c h _ _=>rfl⟩
theorem A2U(k:Cor)(c:Clm)(u:CZ k)(F:ClZ c):Abs prog 79 [AQ (Ec k++ED c)] (ex (.bool (decide (Pp k c)))):=by
 have X:=OB k u;by_cases G:On k
 .rw [Yak G]at X
  have C:NV k:=⟨G.1,G.2.1⟩;have T:=Wp k C c.p 12 F.p;have a:=RO c.o;have Z:=Sj k C c.l F.l;have Q:=Yl c.n;have S:=UH k c.b F.b;have j:=Abp (P:=SgP) (F:=ex (.func (.func 160) #[] #[])) 3 c.s (λx _=>FnAbs.ex (A0u x)) F.s.n;have J:Pp k c↔Dd k c:=⟨λh=>h.2,λh=>⟨G,h⟩⟩;rw[show decide (Pp k c)=decide (Dd k c)from YcL.2 J];obtain⟨kind,p,n,d,r,o,l,s,b⟩:=c;refine Ab func79 λw=>?_;rw[ntmps79];apply Y1;refine Bx ?_;refine Wa<|Y0 ?_;refine CL 0 1 rfl rfl rfl ?_;refine Ah<|Y1 ?_;refine Wq AG ?_;refine Wq Fc ?_;refine Wq (AJ (X)) ?_;refine Wq GT ?_;refine Y0<|Cf<|Ys<|Y1 ?_;refine Wq AG ?_;refine Wq Cb ?_;refine Al ?_;refine Sf ?_;apply Y0;refine CL 1 3 rfl rfl rfl ?_;apply Y1;refine Wq Cb ?_;refine Al ?_;refine Sf ?_;refine Y0<|Y1 ?_;refine Wq AC ?_;refine De (ao rfl) (ao rfl) rfl (Aa rfl) ZbX rfl rfl ?_;refine Y0<|Y1<|Wa<|Y0<|Ah<|Y1 ?_;refine Wq AG ?_;refine Wq AT ?_;apply Y0;refine ZD 0 (λi:Bool×Clm=>⟨[(4,.ptr 2 0),(5,.d (ex (.bool i.1)))],[.dead,.dead,.var 34 ((ED i.2).map .d)]⟩) (λi=>decide (Dd k ⟨kind,p,n,d,r,o,l,s,b⟩)=(i.1&&FY i.2)) ?_ ?_;refine AWp.block<|Ah<|Y1 ?_;refine Wq Ci ?_;refine Wa<|Y0 ?_
  .refine DV (σ':=⟨[(5,.d (ex (.bool true))),(1,.d (Fg 143 (Ec k++ED ⟨kind,p,n,d,r,o,l,s,b⟩))),(3,.d (Fg 34 (ED ⟨kind,p,n,d,r,o,l,s,b⟩))),(4,.ptr 2 0),(15,.d (ex (.int .i64 kind))),(16,.d (ex (.bool (kind==1))))],[.dead,.dead,.var 34 ((ED ⟨0,p,n,d,r,o,l,s,b⟩).map .d)]⟩) ?wk ?_
   case wk=>exact Ac (by exact Yd<|Yd<|Yd<|Yp<|Yd<|Yd<|FrLe.nil) Zeq
   by_cases q:kind=1
   .subst q
    refine Go ?_;exact Zgr
   by_cases A:kind=2
   .subst A
    refine Go ?_;exact Zgr
   by_cases M:kind=10
   .subst M
    refine Go ?_;exact Zgr
   by_cases K:kind=3
   .subst K
    refine Go ?_;exact Zih
   by_cases W:kind=9
   .subst W
    refine Go ?_;exact Zih
   by_cases Y:kind=4
   .subst Y
    refine ZfJ ?_;refine CF 35 rfl (λR=>Fc) ?_;refine EF (λR=>AG) ?_;refine CF 37 rfl (λR=>AT) ?_;refine YX 36 rfl 38 rfl (λR=>AJ (Z)) ?_;refine Go ?_;refine CutS.normal (decide (OValid o)&&decide (Jq k.n l),⟨0,p,n,d,r,[],[],s,b⟩) Zcp ?_;exact Zkz
   by_cases E:kind=5
   .subst E
    refine ZfJ ?_;refine CF 49 rfl (λR=>AT) ?_;refine EF (λR=>AG) ?_;refine CF 51 rfl (λR=>AG) ?_;refine CF 52 rfl (λR=>AG) ?_;refine CF 53 rfl (λR=>AT) ?_;refine YX 50 rfl 54 rfl (λR=>Ci) ?_;refine ZfJ ?_;refine CF 58 rfl (λR=>AT) ?_;refine CF 59 rfl (λR=>AJ (Q)) ?_;refine Go ?_;refine CutS.normal (decide (d ≥ -1)&&decide (d<=k.n)&&decide (SmI n),⟨0,p,0,0,r,o,l,s,b⟩) Zcp ?_;exact Zkz
   by_cases I:kind=6
   .subst I
    refine ZfJ ?_;refine CF 70 rfl (λR=>AT) ?_;refine EF (λR=>AG) ?_;refine CF 72 rfl (λR=>AT) ?_;refine YX 71 rfl 73 rfl (λR=>Ci) ?_;refine ZfJ ?_;refine CF 77 rfl (λR=>AT) ?_;refine EF (λR=>AG) ?_;refine CF 79 rfl (λR=>AT) ?_;refine YX 78 rfl 80 rfl (λR=>Ci) ?_;refine ZfJ ?_;refine CF 84 rfl (λR=>AT) ?_;refine CF 85 rfl (λR=>AJ (Q)) ?_;refine Go ?_;refine CutS.normal (decide (0<=r)&&decide (r<=d)&&decide (d<=n)&&decide (SmI n),⟨0,p,0,0,0,o,l,s,b⟩) Zcp ?_;exact Zkz
   by_cases f:kind=7
   .subst f
    refine Go ?_;refine CutS.normal (decide (Tn k.n b),⟨0,p,n,d,r,o,l,s,[]⟩) Zcp ?_;exact Zkz
   by_cases y:kind=8
   .subst y
    refine ZfJ ?_;refine CF 107 rfl (λR=>Fc) ?_;refine EF (λR=>AG) ?_;refine CF 109 rfl (λR=>AT) ?_;refine YX 108 rfl 110 rfl (λR=>AJ (S)) ?_;refine ZfJ ?_;refine CF 114 rfl (λR=>AT) ?_;refine CF 115 rfl (λR=>BK) ?_;refine EF (λR=>AG) ?_;refine CF 117 rfl (λR=>AT) ?_;refine CF 118 rfl (λR=>BK) ?_;refine YX 116 rfl 119 rfl (λR=>Ci) ?_;refine ZfJ ?_;refine CF 123 rfl (λR=>AT) ?_;refine CF 124 rfl (λR=>AJ (j)) ?_;refine Go ?_;refine CutS.normal (decide (Va k.n 12 p)&&decide (Tn k.n b)&&(((s.length:Nat):Int)==((b.length:Nat):Int))&&decide (∀x∈s,SgP x),⟨0,[],n,d,r,o,l,[],[]⟩) (by rw[YcJ];simp[Dd,FY,and_assoc];intros;omega) ?_;exact Zkz
   by_cases v:kind=11
   .subst v
    refine Go ?_;refine CutS.normal (decide (Jq k.n l),⟨0,p,n,d,r,o,[],s,b⟩) Zcp ?_;exact Zkz
   by_cases N:kind=12
   .subst N
    refine Go ?_;exact ZhI
   by_cases O:kind=13
   .subst O
    refine Go ?_;exact ZhI
   have V:¬Dd k ⟨kind,p,n,d,r,o,l,s,b⟩:=λh=>by simp[Dd,q,A,M,K,W,Y,E,I,f,y,v,N,O]at h
   rw[Yad V];refine Go ?_;refine CutS.ret ?_;exact Yf
  .rintro ⟨B,L⟩ m
   refine Go ?_;refine EF (λR=>AD) ?_;refine CF 147 rfl (λR=>AJ (UI L)) ?_;exact ZiP
 .rw [Yad G]at X
  rw[Yad λh:Pp k c=>G h.1];refine Ab func79 λw=>?_;rw[ntmps79];exact Zfx
structure CrZ(e:Crt):Prop where
 n:IW e.n
 cof:LZ PZ e.cof
 g:LZ PZ e.g
 o:LZ (Gp IW) e.o
 c:LZ (LZ PZ) e.c
 q:LZ (LZ PZ) e.q
 s:LZ (LZ PZ) e.s
 r:RZ e.r
 a:LZ VZ e.a
 sq:LZ SZ e.sq
 x:LZ (Gp QZ) e.x
 b:LZ (Gp VZ) e.b
def NoU(l:List RQ):Prop:=l.length=0
def NoR(r:Rsl):Prop:=∀i,i<8->NoU (r.r i)
def NoL(r:Rsl):Prop:=∀i,i<8->r.l i=0
theorem UB(l:List RQ):Abs prog 257 [GY l] (ex (.bool (decide (NoU l)))):=by
 refine Ab func257 λw=>?_;rw[ntmps257];refine Go ?_;exact AA (Am (ResV.tmp rfl rfl) (Ae (congrArg (λb=>ex (.bool b)) (by rw[YcJ];simp[NoU]))))
def no8:Nat->Int:=λ_=>0
noncomputable def FF (e:Crt):Bool:=e.n==0&&((e.cof.length:Nat):Int)==0&&((e.g.length:Nat):Int)==0&&((e.o.length:Nat):Int)==0&&((e.c.length:Nat):Int)==0&&((e.q.length:Nat):Int)==0&&((e.s.length:Nat):Int)==0&&LU e.r.l no8&&decide (NoU e.r.q)&&decide (NoR e.r)&&((e.a.length:Nat):Int)==0&&((e.sq.length:Nat):Int)==0&&((e.x.length:Nat):Int)==0&&((e.b.length:Nat):Int)==0
theorem SP(e:Crt):Abs prog 177 [AQ (DE e)] (ex (.bool (FF e))):=by
 have X:=UB e.r.q;have K:=A8R (P:=NoU) (F:=ex (.func (.func 257) #[] #[])) 46 [e.r.r 0,e.r.r 1,e.r.r 2,e.r.r 3,e.r.r 4,e.r.r 5,e.r.r 6,e.r.r 7] (λx _=>FnAbs.ex (UB x)) ZbV;have T:=K.le (r':=ex (.bool (decide (NoR e.r)))) (Ae (congrArg (λb=>ex (.bool b)) (YcL.2 ⟨λh i J=>h _ (A8I J),λh x C=>by obtain⟨i,J,rfl⟩:=A9u C;exact h i J⟩)));refine Ab func177 λw=>?_;rw[ntmps177];apply Y1;refine Bx ?_;refine Wa<|Y0 ?_;refine CL 0 1 rfl rfl rfl ?_;refine Y1<|Wa<|Y0<|Y1 ?_;refine Wq AG ?_;refine Wq AT ?_;refine Wq Ci ?_;refine Wm ?_;refine EF (λR=>AG) ?_;refine CF 8 rfl (λR=>AT) ?_;refine CF 9 rfl (λR=>BK) ?_;refine CF 10 rfl (λR=>Ci) ?_;refine Wq CO ?_;refine Wm ?_;refine EF (λR=>AG) ?_;refine CF 14 rfl (λR=>AT) ?_;refine CF 15 rfl (λR=>BK) ?_;refine CF 16 rfl (λR=>Ci) ?_;refine Wq CO ?_;refine Wm ?_;refine EF (λR=>AG) ?_;refine CF 20 rfl (λR=>AT) ?_;refine CF 21 rfl (λR=>BK) ?_;refine CF 22 rfl (λR=>Ci) ?_;refine Wq CO ?_;refine Wm ?_;refine EF (λR=>AG) ?_;refine CF 26 rfl (λR=>AT) ?_;refine CF 27 rfl (λR=>BK) ?_;refine CF 28 rfl (λR=>Ci) ?_;refine Wq CO ?_;refine Wm ?_;refine EF (λR=>AG) ?_;refine CF 32 rfl (λR=>AT) ?_;refine CF 33 rfl (λR=>BK) ?_;refine CF 34 rfl (λR=>Ci) ?_;refine Wq CO ?_;refine Wm ?_;refine EF (λR=>AG) ?_;refine CF 38 rfl (λR=>AT) ?_;refine CF 39 rfl (λR=>BK) ?_;refine CF 40 rfl (λR=>Ci) ?_;refine Wq CO ?_;refine Wm ?_;refine EF (λR=>AG) ?_;refine CF 44 rfl (λR=>AG) ?_;refine CF 45 rfl (λR=>Fc) ?_;refine EF (λR=>As (by refine LA (Aa rfl) (Aa rfl) rfl rfl ?_;refine⟨_,rfl,?_⟩;rfl)) ?_;refine YX 46 rfl 47 rfl (λR=>A6z (a:=e.r.l) (b:=no8) (ao rfl) (ao rfl)) ?_;refine Wq CO ?_;refine Wm ?_;refine EF (λR=>AL) ?_;refine EF (λR=>AG) ?_;refine CF 52 rfl (λR=>AG) ?_;refine CF 53 rfl (λR=>AT) ?_;refine YX 51 rfl 54 rfl (λR=>Dl (ao rfl) (FnAbs.ex X) Zcv) ?_;refine Wq CO ?_;refine Wm ?_;refine EF (λR=>AG) ?_;refine CF 58 rfl (λR=>AG) ?_;refine CF 59 rfl (λR=>A1b (ao rfl) (Aa rfl) (Aa rfl) rfl ZbG) ?_;refine EF (λR=>AL) ?_;refine YX 60 rfl 61 rfl (λR=>AJ (T)) ?_;refine Wq CO ?_;refine Wm ?_;refine EF (λR=>AG) ?_;refine CF 65 rfl (λR=>AT) ?_;refine CF 66 rfl (λR=>BK) ?_;refine CF 67 rfl (λR=>Ci) ?_;refine Wq CO ?_;refine Wm ?_;refine EF (λR=>AG) ?_;refine CF 71 rfl (λR=>AT) ?_;refine CF 72 rfl (λR=>BK) ?_;refine CF 73 rfl (λR=>Ci) ?_;refine Wq CO ?_;refine Wm ?_;refine EF (λR=>AG) ?_;refine CF 77 rfl (λR=>AT) ?_;refine CF 78 rfl (λR=>BK) ?_;refine CF 79 rfl (λR=>Ci) ?_;refine Wq CO ?_;refine Wm ?_;refine EF (λR=>AG) ?_;refine CF 83 rfl (λR=>AT) ?_;refine CF 84 rfl (λR=>BK) ?_;refine CF 85 rfl (λR=>Ci) ?_;refine Wq CO ?_;refine Wa<|Y0<|BV ?_
 exact Yf
noncomputable def EE (k:Cor) (e:Crt):Bool:=decide (Jq k.n e.g)&&decide (OValid e.o)&&decide (JA k.n (e.g.length:Nat) (k.e.length:Nat) e.c)&&decide (JA k.n (k.e.length:Nat) (e.g.length:Nat) e.q)&&decide (JA k.n (((e.g.length:Nat):Int)*(((e.g.length:Nat):Int)-1)/2) (e.g.length:Nat) e.s)
noncomputable def JV (k:Cor) (e:Crt):Bool:=(((e.cof.length:Nat):Int)==((k.e.length:Nat):Int))&&decide (MD k.n e.cof)
theorem A2p(k:Cor)(c:Clm)(e:Crt)(B:NV k)(a:CrZ e):Abs prog 166 [AQ (Eb ⟨k,c,e⟩)] (ex (.bool (JV k e))):=by
 have X:=Su k B e.cof a.cof;refine Ab func166 λw=>?_;rw[ntmps166];apply Y1;refine Bx ?_;refine Wa<|Y0 ?_;refine CL 0 1 rfl rfl rfl ?_;apply Y1;refine Wq AG ?_;refine Wq AG ?_;refine Wq AT ?_;refine Wq BK ?_;refine Wq AG ?_;refine Wq AG ?_;refine Wq AG ?_;refine Wq AG ?_;refine Wq AT ?_;refine Wq BK ?_;refine Wq Ci ?_;refine Wm ?_;refine EF (λR=>AG) ?_;refine CF 15 rfl (λR=>AG) ?_;refine CF 16 rfl (λR=>Fc) ?_;refine EF (λR=>AG) ?_;refine CF 18 rfl (λR=>AG) ?_;refine CF 19 rfl (λR=>AT) ?_;refine YX 17 rfl 20 rfl (λR=>AJ (X)) ?_;refine Wq CO ?_;refine Wa<|Y0<|BV ?_
 exact Yf
theorem A3w(k:Cor)(c:Clm)(e:Crt)(B:NV k)(a:CrZ e):Abs prog 167 [AQ (Eb ⟨k,c,e⟩)] (ex (.bool (EE k e))):=by
 have T:=a.g.n;obtain⟨N,q⟩:∃N:Int,N=((e.g.length:Nat):Int):=⟨_,rfl⟩;have W:0<=N/\N<=40000:=by omega
 have F:0<=N*(N-1):=by
  rcases Int.lt_or_le 0 N with h | h
  .exact Yco ZbG ZbG
  .rw [show N=0 by omega];decide
 have f:N*(N-1)<=40000*40000:=Yel (YdR (show N-1<=40000 by omega) W.1) (YdO W.2 ZbL);obtain⟨M,d⟩:∃M:Int,M=N*(N-1):=⟨_,rfl⟩;rw[<-d]at F f;have G:IntKind.i64.wrap (((e.g.length:Nat):Int)*(((e.g.length:Nat):Int)-1))=M:=by rw[<-q,<-d,IntKind.wrap_i64];omega
 have l:IntKind.i64.wrap (M.tdiv 2)=M/2:=by rw[YbU F,IntKind.wrap_i64];omega
 have X:=Sj k B e.g a.g;have K:=RO e.o;have A:=JE k B (e.g.length:Nat) (k.e.length:Nat) e.c a.c;have C:=JE k B (k.e.length:Nat) (e.g.length:Nat) e.q a.q;have E:=JE k B (M/2) (e.g.length:Nat) e.s a.s;have Q:EE k e=(decide (Jq k.n e.g)&&decide (OValid e.o)&&decide (JA k.n (e.g.length:Nat) (k.e.length:Nat) e.c)&&decide (JA k.n (k.e.length:Nat) (e.g.length:Nat) e.q)&&decide (JA k.n (M/2) (e.g.length:Nat) e.s)):=by rw[d,q];rfl
 rw[Q];refine Ab func167 λw=>?_;rw[ntmps167];refine Go ?_;refine FS (τ:=⟨[(1,.ptr 0 0),(3,.ptr 1 0),(4,.d (ex (.int .i64 ((k.e.length:Nat):Int)))),(5,.d (ex (.int .i64 ((e.g.length:Nat):Int))))],[.var 150 ((Eb ⟨k,c,e⟩).map .d),.var 46 ((DE e).map .d)]⟩) ZbK [[],[(6,0)],[],[(8,2)],[(9,3)],[(10,4)],[(11,5)],[(12,6)],[],[(14,8)],[(15,9)],[(16,10)],[],[(3,12),(7,1)],[(13,7)],[(17,11)]] [.av (.ptr 0 12),.av (.d (AQ (DE e))),.av (.ptr 0 0),.av (.ptr 0 0),.av (.ptr 0 0),.av (.ptr 0 1),.av (.d (Ic k.e)),.av (.d (ex (.int .i64 ((k.e.length:Nat):Int)))),.av (.ptr 0 12),.av (.ptr 0 14),.av (.d (Ic e.g)),.av (.d (ex (.int .i64 ((e.g.length:Nat):Int)))),.newS 46 13 (DE e),.st 12,.av (.d (ex (.int .i64 ((k.e.length:Nat):Int)))),.av (.d (ex (.int .i64 ((e.g.length:Nat):Int))))] ZbK ?_ ?_ ?_
 .refine Zgh ?_;refine Zgd ?_;refine Zgo ?_;refine HYSteps.cons (.q rfl (Bj rfl (Aa rfl))) ?_;refine Zgo ?_;refine Zgu ?_;refine ZfA ?_;refine HYSteps.cons (.q rfl (Bg rfl)) ?_;exact HYSteps.nil
 .exact Ac (by exact Yp<|Yp<|Yd<|Yd<|FrLe.nil) ZcA
 apply Yn;refine CL 0 1 rfl rfl rfl ?_;refine CL 1 3 rfl rfl rfl ?_;refine ZfJ ?_;refine CF 25 rfl (λR=>AT) ?_;refine CF 26 rfl (λR=>AJ (K)) ?_;refine ZfJ ?_;refine CF 30 rfl (λR=>AG) ?_;refine CF 31 rfl (λR=>Fc) ?_;refine EF (λR=>AG) ?_;refine CF 33 rfl (λR=>AT) ?_;refine EF (λR=>AL) ?_;refine EF (λR=>AL) ?_;refine Wu4 32 rfl 34 rfl 35 rfl 36 rfl (λR=>AJ (A)) ?_;refine ZfJ ?_;refine CF 40 rfl (λR=>AG) ?_;refine CF 41 rfl (λR=>Fc) ?_;refine EF (λR=>AG) ?_;refine CF 43 rfl (λR=>AT) ?_;refine EF (λR=>AL) ?_;refine EF (λR=>AL) ?_;refine Wu4 42 rfl 44 rfl 45 rfl 46 rfl (λR=>AJ (C)) ?_;refine ZfJ ?_;refine CF 50 rfl (λR=>AG) ?_;refine CF 51 rfl (λR=>Fc) ?_;refine EF (λR=>AG) ?_;refine CF 53 rfl (λR=>AT) ?_;refine EF (λR=>AL) ?_;refine EF (λR=>AL) ?_;refine CF 56 rfl (λR=>A0X) ?_;refine YX 55 rfl 57 rfl (λR=>GV (ao rfl) (ao rfl) G) ?_;refine CF 58 rfl (λR=>Aa8) ?_;refine EF (λR=>AL) ?_;refine Wu4 52 rfl 54 rfl 59 rfl 60 rfl (λR=>AJ (E)) ?_;exact Zfx
def woB(e:Crt):Crt:=⟨e.n,e.cof,[],[],[],[],[],e.r,e.a,e.sq,e.x,e.b⟩
theorem Gr(e:Crt):Abs prog 168 [AQ (DE e)] (AQ (DE (woB e))):=by
 refine Ab func168 λw=>?_;rw[ntmps168];refine Go ?_;exact AA (Am (ResV.cell rfl rfl (Aa rfl) rfl rfl rfl) (Ce ZdK))
def Oj(r:Rsl):Prop:=NoL r/\NoU r.q/\NoR r
def Mt(k:Cor)(e:Crt):Prop:=((e.cof.length:Nat):Int)=((k.e.length:Nat):Int)/\MD k.n e.cof
def LC(k:Cor)(e:Crt):Prop:=Jq k.n e.g/\OValid e.o/\JA k.n (e.g.length:Nat) (k.e.length:Nat) e.c/\JA k.n (k.e.length:Nat) (e.g.length:Nat) e.q/\JA k.n (((e.g.length:Nat):Int)*(((e.g.length:Nat):Int)-1)/2) (e.g.length:Nat) e.s
def DS(k:Cor)(c:Clm)(e:Crt):Prop:=
 if c.kind=1 then Mt k e/\e.n=0/\e.g=[]/\e.o=[]/\e.c=[]/\e.q=[]/\e.s=[]/\Oj e.r/\e.a=[]/\e.sq=[]/\e.x=[]/\e.b=[]
 else if c.kind=2\/c.kind=4\/c.kind=5\/c.kind=6 then LC k e/\e.n=0/\e.cof=[]/\Oj e.r/\e.a=[]/\e.sq=[]/\e.x=[]/\e.b=[]
 else if c.kind=3 then(1<=e.n/\e.n<=64/\Mt k e)/\e.g=[]/\e.o=[]/\e.c=[]/\e.q=[]/\e.s=[]/\Oj e.r/\e.a=[]/\e.sq=[]/\e.x=[]/\e.b=[]
 else if c.kind=7\/c.kind=8 then(LC k e/\e.a.length<=64/\(∀x∈e.a,IvP x)/\Wx k.n e.r)/\e.n=0/\e.cof=[]/\e.sq=[]/\e.x=[]/\e.b=[]
 else if c.kind=9\/c.kind=10 then(e.sq.length<=64/\(∀x∈e.sq,SqP k.n x)/\Mt k e)/\e.n=0/\e.g=[]/\e.o=[]/\e.c=[]/\e.q=[]/\e.s=[]/\Oj e.r/\e.a=[]/\e.x=[]/\e.b=[]
 else if c.kind=11 then JA k.n (1+((c.l.length:Nat):Int)*(((c.l.length:Nat):Int)+1)/2) (k.e.length:Nat) e.c/\e.n=0/\e.cof=[]/\e.g=[]/\e.o=[]/\e.q=[]/\e.s=[]/\Oj e.r/\e.a=[]/\e.sq=[]/\e.x=[]/\e.b=[]
 else if c.kind=12 then(Jq k.n e.g/\OValid e.o/\JA k.n (e.g.length:Nat) (k.e.length:Nat) e.c)/\e.n=0/\e.cof=[]/\e.q=[]/\e.s=[]/\Oj e.r/\e.a=[]/\e.sq=[]/\e.x=[]/\e.b=[]
 else if c.kind=13 then(e.x.length<=64/\(∀x∈e.x,PtP k.n x)/\Tn k.n e.b)/\e.n=0/\e.cof=[]/\e.g=[]/\e.o=[]/\e.c=[]/\e.q=[]/\e.s=[]/\Oj e.r/\e.a=[]/\e.sq=[]
 else False
def Qj(k:Cor)(c:Clm)(e:Crt):Prop:=Pp k c/\DS k c e
theorem Ei(r:Rsl):(LU r.l no8=true/\NoU r.q/\NoR r)↔Oj r:=by
 rw[GP];exact YdG
theorem OZ(n:Nat):((n:Int)<=64)↔n<=64:=by omega
theorem OT:LU no8 no8=true:=by decide
theorem PE:NoU []:=rfl
theorem PF:NoR ⟨no8,[],λ_=>[]⟩:=λ_ _=>rfl
theorem A7H{k:Cor}{c:Clm}(h:Dd k c):1<=c.kind/\c.kind<=13:=by
 unfold Dd at h
 repeat (split at h;omega)
 exact h.elim
theorem A0w(k:Cor)(c:Clm)(e:Crt)(u:CZ k)(F:ClZ c)(a:CrZ e):Abs prog 86 [AQ (Eb ⟨k,c,e⟩)] (ex (.bool (decide (Qj k c e)))):=by
 have X:=A2U k c u F;by_cases I:Pp k c
 .rw [Yak I]at X
  have C:NV k:=⟨I.1.1,I.1.2.1⟩;have Z:=A7H I.2;have hF:Qj k c e↔DS k c e:=⟨λh=>h.2,λh=>⟨I,h⟩⟩;rw[show decide (Qj k c e)=decide (DS k c e)from YcL.2 hF];clear hF I;have g:=A2p k c e C a;have cB:=A3w k c e C a;have cL:=Sj k C e.g a.g;have cO:=RO e.o;have cT:=JE k C (e.g.length:Nat) (k.e.length:Nat) e.c a.c;have cI:=Abo (P:=IvP) (F:=ex (.func (.func 170) #[] #[])) 129 e.a (λx E=>FnAbs.ex (KX x (a.a.e x E))) a.a.n;have cR:=TG k e.r a.r;have t:=Abj (P:=SqP k.n) (F:=fvD 173 [AQ (Ec k)] []) 184 e.sq (λx E=>Lz (ZY k C x (a.sq.e x E))) a.sq.n;have cX:=Abl (P:=PtP k.n) (F:=fvD 176 [AQ (Ec k)] []) 187 e.x (λx E=>Lz (A30 k x (a.x.e x E))) a.x.n;have cW:=UH k e.b a.b;have j:=F.l.n;obtain⟨kind,p,n,d,r,o,l,s,b⟩:=c;have j:l.length<=40000:=j;obtain⟨M,N⟩:∃M:Int,M=((l.length:Nat):Int)*(((l.length:Nat):Int)+1):=⟨_,rfl⟩;have xa:0<=M:=by rw[N];exact Yco ZbG ZbG
  have xf:M<=40000*40001:=by rw[N];exact Yel (YdR (show((l.length:Nat):Int)+1<=40001 by omega) ZbG) (YdO (show((l.length:Nat):Int)<=40000 by omega) ZbL)
  have xb:IntKind.i64.wrap (((l.length:Nat):Int)*((l.length+1:Nat):Int))=M:=by rw[show((l.length+1:Nat):Int)=((l.length:Nat):Int)+1 by omega,<-N,IntKind.wrap_i64];omega
  have xe:IntKind.i64.wrap (((l.length:Nat):Int)+1)=((l.length+1:Nat):Int):=by rw[IntKind.wrap_i64];omega
  have xc:IntKind.i64.wrap (M.tdiv 2)=M/2:=by rw[YbU xa,IntKind.wrap_i64];omega
  have xd:IntKind.i64.wrap (1+M/2)=1+M/2:=by rw[IntKind.wrap_i64];omega
  have cM:=JE k C (1+M/2) (k.e.length:Nat) e.c a.c;have Z:1<=kind/\kind<=13:=Z;refine Ab func86 λw=>?_;rw[ntmps86];refine Go ?_;refine FS (τ:=⟨[(1,.ptr 0 0),(3,.ptr 1 0),(4,.d (ex (.int .i64 ((k.e.length:Nat):Int))))],[.var 150 ((Eb ⟨k,⟨kind,p,n,d,r,o,l,s,b⟩,e⟩).map .d),.var 46 ((DE e).map .d)]⟩) ZbK [[],[(12,0)],[],[(14,2)],[(15,3)],[(16,4)],[(17,5)],[(18,6)],[],[(3,8),(13,1)],[(19,7)]] [.av (.ptr 0 12),.av (.d (AQ (DE e))),.av (.ptr 0 0),.av (.ptr 0 0),.av (.ptr 0 0),.av (.ptr 0 1),.av (.d (Ic k.e)),.av (.d (ex (.int .i64 ((k.e.length:Nat):Int)))),.newS 46 9 (DE e),.st 8,.av (.d (ex (.int .i64 ((k.e.length:Nat):Int))))] ZbK ?_ ?_ ?_
  .refine Zgh ?_;refine Zgd ?_;refine Zgo ?_;refine Zgu ?_;exact Zga
  .exact Ac ZcY ZcA
  apply Yn;refine CL 0 1 rfl rfl rfl ?_;refine CL 1 3 rfl rfl rfl ?_;apply Y1;refine Wq Cb ?_;refine Al ?_;refine Sf ?_;refine Y0<|Y1<|Wa<|Y0<|Ah<|Y1 ?_;refine Wq AG ?_;refine Wq AG ?_;refine Wq AG ?_;refine Wq AT ?_;apply Y0;refine ZD 0 (λi:Bool×Crt=>⟨[(5,.ptr 2 0),(6,.d (ex (.bool i.1)))],[.dead,.dead,.var 46 ((DE i.2).map .d)]⟩) (λi=>decide (DS k ⟨kind,p,n,d,r,o,l,s,b⟩ e)=(i.1&&FF i.2)) ?_ ?_;refine AWp.block<|Y1 ?_;refine Wq Ci ?_;refine Wa<|Y0 ?_
  .refine DV (σ':=⟨[(6,.d (ex (.bool true))),(1,.d (Fg 150 (Eb ⟨k,⟨kind,p,n,d,r,o,l,s,b⟩,e⟩))),(3,.d (Fg 46 (DE e))),(4,.d (ex (.int .i64 ((k.e.length:Nat):Int)))),(5,.ptr 2 0),(24,.d (ex (.int .i64 kind))),(25,.d (ex (.bool (kind==1))))],[.dead,.dead,.var 46 ((DE e).map .d)]⟩) ?wk ?_
   case wk=>exact Ac (by exact Yd<|Yd<|Yd<|Yd<|Yp<|Yd<|Yd<|FrLe.nil) Zeq
   by_cases q:kind=1
   .subst q
    refine Go ?_;refine CutS.normal (JV k e,⟨e.n,[],e.g,e.o,e.c,e.q,e.s,e.r,e.a,e.sq,e.x,e.b⟩) ZbT ?_;exact Zkz
   by_cases A:kind=2
   .subst A
    have H:=Gr e;exact Zjs
   by_cases Y:kind=4
   .subst Y
    have P:=Gr e;exact Zjs
   by_cases G:kind=5
   .subst G
    have V:=Gr e;exact Zjs
   by_cases J:kind=6
   .subst J
    have z:=Gr e;exact Zjs
   by_cases K:kind=3
   .subst K
    refine ZfJ ?_;refine CF 45 rfl (λR=>AT) ?_;refine CF 46 rfl (λR=>Ci) ?_;refine Go ?_;refine EF (λR=>Cb) ?_;refine CF 50 rfl (λR=>AJ (g)) ?_;refine Go ?_;refine CutS.normal (decide (e.n ≥ 1)&&decide (e.n<=64)&&JV k e,⟨0,[],e.g,e.o,e.c,e.q,e.s,e.r,e.a,e.sq,e.x,e.b⟩) ZbT ?_;exact Zkz
   by_cases f:kind=7
   .subst f
    refine ZfJ ?_;refine CF 61 rfl (λR=>AT) ?_;refine CF 62 rfl (λR=>BK) ?_;refine CF 63 rfl (λR=>Ci) ?_;refine ZfJ ?_;refine CF 67 rfl (λR=>AT) ?_;refine CF 68 rfl (λR=>AJ (cI)) ?_;refine ZfJ ?_;refine CF 72 rfl (λR=>AG) ?_;refine CF 73 rfl (λR=>Fc) ?_;refine EF (λR=>AG) ?_;refine CF 75 rfl (λR=>Fc) ?_;refine YX 74 rfl 76 rfl (λR=>AJ (cR)) ?_;have T:=Gr e;refine Go ?_;exact Zgk
   by_cases y:kind=8
   .subst y
    refine ZfJ ?_;refine CF 61 rfl (λR=>AT) ?_;refine CF 62 rfl (λR=>BK) ?_;refine CF 63 rfl (λR=>Ci) ?_;refine ZfJ ?_;refine CF 67 rfl (λR=>AT) ?_;refine CF 68 rfl (λR=>AJ (cI)) ?_;refine ZfJ ?_;refine CF 72 rfl (λR=>AG) ?_;refine CF 73 rfl (λR=>Fc) ?_;refine EF (λR=>AG) ?_;refine CF 75 rfl (λR=>Fc) ?_;refine YX 74 rfl 76 rfl (λR=>AJ (cR)) ?_;have U:=Gr e;refine Go ?_;exact Zgk
   by_cases W:kind=9
   .subst W
    refine ZfJ ?_;refine CF 92 rfl (λR=>AT) ?_;refine EF (λR=>AG) ?_;refine CF 94 rfl (λR=>AG) ?_;refine CF 95 rfl (λR=>Fc) ?_;refine CF 96 rfl (λR=>Lu Zcv Zdu) ?_;refine YX 93 rfl 97 rfl (λR=>AJ (t)) ?_;refine Go ?_;refine EF (λR=>Cb) ?_;refine CF 101 rfl (λR=>AJ (g)) ?_;refine Go ?_;exact Zgq
   by_cases L:kind=10
   .subst L
    refine ZfJ ?_;refine CF 92 rfl (λR=>AT) ?_;refine EF (λR=>AG) ?_;refine CF 94 rfl (λR=>AG) ?_;refine CF 95 rfl (λR=>Fc) ?_;refine CF 96 rfl (λR=>Lu Zcv Zdu) ?_;refine YX 93 rfl 97 rfl (λR=>AJ (t)) ?_;refine Go ?_;refine EF (λR=>Cb) ?_;refine CF 101 rfl (λR=>AJ (g)) ?_;refine Go ?_;exact Zgq
   by_cases v:kind=11
   .subst v
    refine Go ?_;refine Wq (DP (ao rfl) (ao rfl) xe) ?_;refine Wq (GV (ao rfl) (ao rfl) xb) ?_;refine Wq (GU (ao rfl) (ao rfl) ZbL xc) ?_;refine Wq (DP (ao rfl) (ao rfl) xd) ?_;refine Go ?_;refine CutS.normal (decide (JA k.n (1+M/2) (k.e.length:Nat) e.c),⟨e.n,e.cof,e.g,e.o,[],e.q,e.s,e.r,e.a,e.sq,e.x,e.b⟩) ZbT ?_;exact Zkz
   by_cases Q:kind=12
   .subst Q
    refine ZfJ ?_;refine CF 136 rfl (λR=>AT) ?_;refine CF 137 rfl (λR=>AJ (cO)) ?_;refine ZfJ ?_;refine CF 141 rfl (λR=>AG) ?_;refine CF 142 rfl (λR=>Fc) ?_;refine EF (λR=>AG) ?_;refine CF 144 rfl (λR=>AT) ?_;refine EF (λR=>AG) ?_;refine CF 146 rfl (λR=>AT) ?_;refine CF 147 rfl (λR=>BK) ?_;refine EF (λR=>AL) ?_;refine Wu4 143 rfl 145 rfl 148 rfl 149 rfl (λR=>AJ (cT)) ?_;refine Go ?_;refine CutS.normal (decide (Jq k.n e.g)&&decide (OValid e.o)&&decide (JA k.n (e.g.length:Nat) (k.e.length:Nat) e.c),⟨e.n,e.cof,[],[],[],e.q,e.s,e.r,e.a,e.sq,e.x,e.b⟩) ZbT ?_;exact Zkz
   by_cases S:kind=13
   .subst S
    refine ZfJ ?_;refine CF 162 rfl (λR=>AT) ?_;refine EF (λR=>AG) ?_;refine CF 164 rfl (λR=>AG) ?_;refine CF 165 rfl (λR=>Fc) ?_;refine CF 166 rfl (λR=>Lu Zcv Zdu) ?_;refine YX 163 rfl 167 rfl (λR=>AJ (cX)) ?_;refine ZfJ ?_;refine CF 171 rfl (λR=>AG) ?_;refine CF 172 rfl (λR=>Fc) ?_;refine EF (λR=>AG) ?_;refine CF 174 rfl (λR=>AT) ?_;refine YX 173 rfl 175 rfl (λR=>AJ (cW)) ?_;refine Go ?_;refine CutS.normal (decide (((e.x.length:Nat):Int)<=64)&&decide (∀x∈e.x,PtP k.n x)&&decide (Tn k.n e.b),⟨e.n,e.cof,e.g,e.o,e.c,e.q,e.s,e.r,e.a,e.sq,[],[]⟩) ZbT ?_;exact Zkz
   exact absurd Z ZbG
  .rintro ⟨B,O⟩ m
   refine Go ?_;refine EF (λR=>AD) ?_;refine CF 182 rfl (λR=>AJ (SP O)) ?_;exact ZiP
 .rw [Yad I]at X
  rw[Yad λh:Qj k c e=>I h.1];refine Ab func86 λw=>?_;rw[ntmps86];exact Zfx
structure FZ(f:Fct):Prop where
 k:CZ f.k
 c:ClZ f.c
 e:CrZ f.e
theorem WZ.sm{l:List Nat}(h:WZ l):SmW l:=⟨h.s,by have:=h.n;omega⟩
theorem QZ.qb(h:QZ xg):QB xg:=⟨h.n.sm,h.d.sm⟩
theorem PZ.pw(h:PZ ux):PoW ux:=λt L=>⟨(h.t t L).n.sm,(h.t t L).d.sm⟩
theorem VZ.vw{a:RQ×RQ}(h:VZ a):VW a:=⟨h.1.qb,h.2.qb⟩
theorem CZ.cw{k:Cor}(h:CZ k):CoW k:=⟨h.n,λp G=>(h.e.e p G).pw,λp G=>(h.f.e p G).pw⟩
theorem ClZ.cw{c:Clm}(h:ClZ c):ClW c:=⟨h.kind,h.p.pw,h.n,h.d,h.r,h.o.e,λp G=>(h.l.e p G).pw,h.s.e,λx C i J=>(h.b.e x C i J).vw⟩
theorem CrZ.cw{e:Crt}(h:CrZ e):CrW e:=⟨h.n,λp G=>(h.cof.e p G).pw,λp G=>(h.g.e p G).pw,h.o.e,λt L l I=>((h.c.e t L).e l I).pw,λt L l I=>((h.q.e t L).e l I).pw,λt L l I=>((h.s.e t L).e l I).pw,⟨h.r.l,λq k=>(h.r.q.e q k).qb,λi J q k=>((h.r.r i J).e q k).qb⟩,λx C=>(h.a.e x C).vw,λx C=>⟨(h.sq.e x C).1.qb,(h.sq.e x C).2.pw⟩,λx C i J=>(h.x.e x C i J).qb,λx C i J=>(h.b.e x C i J).vw⟩
theorem FZ.fw{f:Fct}(h:FZ f):FW f:=⟨h.k.cw,h.c.cw,h.e.cw⟩
theorem A1s(k:Cor)(c:Clm)(e:Crt)(u:CZ k)(F:ClZ c)(a:CrZ e):Abs prog 36 [AQ (Ec k),AQ (ED c),AQ (DE e)] (ex (.bool (decide (Qj k c e)))):=by
 refine Ab func36 λw=>?_;rw[ntmps36];have H:=A0w k c e u F a;exact Zfx
noncomputable def A7N (f:Fct):List Nat:=if Qj f.k f.c f.e then Er f else[]
theorem Ti(f:Fct)(u:FZ f)(I:(Er f).length<=1000000000000):Abs prog 14 [AQ (Eb f)] (Hf 5 (A7N f)):=by
 have X:=A1s f.k f.c f.e u.k u.c u.e;by_cases h:Qj f.k f.c f.e
 .rw [Yak h]at X
  have K:=A2k f u.fw [] Zdo;rw[A7N,Yan h];refine Ab func14 λw=>?_;rw[ntmps14];apply Y1;refine Bx ?_;refine Wa<|Y0<|Ah<|Y1 ?_;refine Wq AC ?_;refine Wq AD ?_;refine Wq AC ?_;refine Wq AD ?_;refine Wq AC ?_;refine Wq AD ?_;refine Wq (AJ (X)) ?_;refine Wq GT ?_;refine Y0<|Cf<|Ys<|Y1 ?_;refine Al ?_;refine Y0<|Y1 ?_;refine Wq AD ?_
  refine Zgj ?_;rintro _ _ ⟨rfl,rfl⟩;refine Kr ?_;exact Zfx
 .rw [Yad h]at X
  rw[A7N,Yai h];refine Ab func14 λw=>?_;rw[ntmps14];exact Zjh
noncomputable def A3i (k:Cor):List Nat:=if On k then FV k else[]
theorem WX(k:Cor)(u:CZ k)(I:(FV k).length<=1000000000000):Abs prog 20 [AQ (Ec k)] (TD (A3i k)):=by
 have X:=UO k u;by_cases h:On k
 .rw [Yak h]at X
  have K:=A2o k u.cw [] Zdo;rw[A3i,Yan h];refine Ab func20 λw=>?_;rw[ntmps20];apply Y1;refine Bx ?_;refine Wa<|Y0<|Ah<|Y1 ?_;refine Wq AD ?_;refine Wq (AJ (X)) ?_;refine Wq GT ?_;refine Y0<|Cf<|Ys<|Y1 ?_;refine Al ?_;refine Y0<|Y1 ?_;refine Wq AD ?_
  refine Zgj ?_;rintro _ _ ⟨rfl,rfl⟩;refine ZfN ?_;refine Wq (EO (l:=FV k) rfl (Aa rfl) (Aa rfl) (Aa rfl)) ?_;exact Zfx
 .rw [Yad h]at X
  rw[A3i,Yai h];refine Ab func20 λw=>?_;rw[ntmps20];exact Zfx
def IV(kind:Int)(p:List RTm)(o:List (Nat->Int)):List Nat:=(Bm kind++Cp p)++BZ o
theorem Xe(kind:Int)(p:List RTm)(o:List (Nat->Int))(B:IW kind)(G:PoW p)(m:Fn (Gp IW) o)(I:(IV kind p o).length<=1000000000000):Abs prog 21 [AQ [ex (.int .i64 kind),Kc p,Du o]] (TD (IV kind p o)):=by
 simp only[IV,Yaa]at I;have X:=FL kind B [] ZiB;have K:=QJ p G (Bm kind) ZbG;have T:=RP o m (Bm kind++Cp p) Zdy;refine Ab func21 λw=>?_;rw[ntmps21];apply Y1;refine Bx ?_;refine Wa<|Y0<|Y1 ?_;refine Al ?_;refine Y0<|Y1 ?_;refine Wq AC ?_;refine Wq Ao ?_
 refine Bk (Ky 1 0 5 1 rfl rfl ZbL ZbG rfl rfl rfl rfl) ?_;refine AU [1,2] [] [] (X) ZbC rfl rfl ZbF ZbD ZbL ZbB ZbH trivial rfl ?_;rintro _ _ ⟨rfl,rfl⟩;refine ZfN ?_;refine AU [1,2] [] [] (K) ZbC rfl rfl ZbF ZbD ZbL ZbB ZbH trivial rfl ?_;rintro _ _ ⟨rfl,rfl⟩;refine ZfN ?_;refine AU [1,2] [] [] (T) ZbC rfl rfl ZbF ZbD ZbL ZbB ZbH trivial rfl ?_;rintro _ _ ⟨rfl,rfl⟩;refine ZfN ?_;refine Wq (EO (l:=IV kind p o) rfl (Aa rfl) (Aa rfl) (Aa rfl)) ?_;exact Zfx
abbrev rwD(T:Nat)(L:List (Nat×List (Nat->Int))):D:=slD T 1 (L.map λx=>[r5D x.1 x.2])
def Tx(L:List (Nat×List (Nat->Int))):Prop:=∀x∈L,A3M x.2
abbrev Ov(T:Nat)(V:List Int):D:=slD T 1 (V.map λz=>[ex (.int .i8 z)])
def I8(V:List Int):Prop:=∀z∈V,-128<=z/\z<=127
def Ba(Q:List (List Tm)):D:=slD 28 1 (Q.map λP=>[BP P])
theorem EZ(Q:List (List Tm)):Ba Q=Ic (Q.map λP=>P.map DK):=by
 unfold Ba Ic;rw[Yce];congr 1;exact YaY λP _=>by rw[Jd];rfl
def Fl(L:List (Nat×List (Nat->Int)))(k:Nat):List (List Tm):=(L.take k).map λx=>A2b x.2 2 2 3
abbrev AZ(L:List (Nat×List (Nat->Int))):List (List Tm):=Fl L (min L.length 6)
def AR(V:List Int)(k:Nat):Int:=if V.length=0 then 0 else V.getD (k%V.length) default
theorem Cj{V:List Int}(h:I8 V)(k:Nat):-128<=AR V k/\AR V k<=127:=by
 unfold AR;split
 .omega
 .rename_i d
  have I:k%V.length<V.length:=YaV _ ZbG;rw[Yab,Yac I];exact h _ (Ybm _)
theorem CH(T:Nat)(V:List Int)(q:I8 V)(k:Nat)(B:k<=1000000)(I:V.length<=9223372036854775807):Abs prog 60 [Ov T V,ex (.int .i64 (k:Nat))] (ex (.int .i64 (AR V k))):=by
 by_cases d:V.length=0
 .refine Ab func60 λw=>?_
  rw[ntmps60];refine Go ?_;exact AA (Am (ResV.tmp rfl rfl) (Ae (by rw[AR,Yan d])))
 .have O:k%V.length<V.length:=YaV _ ZbG
  have u:=Cj q k;rw[AR,Yai d]at u;refine Ab func60 λw=>?_;rw[ntmps60];refine Y1<|Wa<|Y0<|Ah<|Y1<|Wm ?_;refine Wq BK ?_;refine Wq AO ?_;refine Y0<|Cf<|Ys<|Y1<|Wm<|Wm<|Wm ?_;refine Wq BK ?_;refine Wq A6u ?_;refine Wq Dp ?_;refine Wq AT ?_;refine Wq (GB (ao rfl) (Aa rfl) (Aa rfl) Zcb Zcb) ?_;refine Wa<|Y0<|BV ?_
  exact AA (Am (ResV.tmp rfl rfl) (Ae (by simp only[YaR];rw[AR,Yai d])))
theorem Ev(Q:List (List Tm))(i n:Nat)(J:i<=100000)(h:n<=100000)(I:Q.length<=9223372036854775807):Abs prog 62 [Ba Q,ex (.int .i64 (i:Nat)),ex (.int .i64 (n:Nat))] (Ba ((List.range n).map λj=>if Q.length=0 then[]else Q.getD ((i+j)%Q.length) default)):=by
 obtain⟨F,hF⟩:∃F:Nat->List Tm,F=λj=>if Q.length=0 then[]else Q.getD ((i+j)%Q.length) default:=⟨_,rfl⟩
 rw[<-hF];have X:∀k,(List.range (k+1)).map F=(List.range k).map F++[F k]:=λk=>by rw[Ycv,Ych];rfl
 refine Ab func62 λw=>?_;rw[ntmps62];refine Go ?_;refine AF (λv c=>∃k,k<=n/\v=n-k/\c=⟨[(0,.d (Ba Q)),(1,.d (ex (.int .i64 (i:Nat)))),(2,.d (ex (.int .i64 (n:Nat)))),(7,.own 0),(8,.d (ex (.int .i64 (k:Nat))))],[.row 28 1 (((List.range k).map F).map λP=>[BP P])]⟩) ?le ⟨0,by omega,rfl,rfl⟩ ?round
 case le=>exact Ac ZcT Zdz
 case round=>
  rintro v _ ⟨k,B,rfl,rfl⟩;by_cases O:k<n
  .by_cases d:Q.length=0
   .have p:F k=[]:=by rw [hF];exact Yan d
    refine Ah<|Y1<|Wm<|Wm ?_;refine Wq Bc ?_;refine Y0<|Ct<|Ys<|Ah<|AWp.block<|Y1<|Wm ?_;refine Wq BK ?_;refine Wq Bc ?_;refine Y0<|Ct<|AWp.region<|Wm ?_;refine Xh (Aa rfl) (Aa rfl) rfl rfl rfl rfl rfl ?_
    refine Bk (σ':=⟨[(19,.d (BP [])),(18,.own 0),(0,.d (Ba Q)),(1,.d (ex (.int .i64 (i:Nat)))),(2,.d (ex (.int .i64 (n:Nat)))),(8,.d (ex (.int .i64 (k:Nat))))],[.row 28 1 (((List.range k).map F).map λP=>[BP P])]⟩) ?wk ?_
    case wk=>exact Ac (by exact FrLe.cons rfl (Is rfl (D.le.refl _))<|FrLe.cons rfl (AVle.own rfl)<|Yd<|Yd<|Yd<|Yd<|FrLe.nil) Zdz
    refine Go ?_;refine Ai (n-(k+1)) ZbG ⟨k+1,by omega,rfl,rfl⟩ ?_;exact Ac ZcT (by(refine HpLe.cons (OwLe.row (by rw[X,Ych,p];rfl)) ?_);exact HpLe.nil)
   .have p:F k=Q.getD ((i+k)%Q.length) default:=by rw [hF];exact Yai d
    have g:(i+k)%Q.length<Q.length:=YaV _ ZbG;refine Go ?_;refine Ai (n-(k+1)) ZbG ⟨k+1,by omega,rfl,rfl⟩ ?_;exact Ac ZcT (by(refine HpLe.cons (OwLe.row (by rw[X,Ych,p];simp only[YaR];rfl)) ?_);exact HpLe.nil)
  .obtain rfl:k=n:=by omega
   exact Zfx
theorem EA(T:Nat)(L:List (Nat×List (Nat->Int)))(m:Tx L):Abs prog 59 [rwD T L,ex (.int .i64 (2:Nat)),ex (.int .i64 2),ex (.int .i64 (3:Nat)),ex (.int .i64 (6:Nat))] (Ba (AZ L)):=by
 have X:∀k,k<L.length->Fl L (k+1)=Fl L k++[A2b (L.getD k default).2 2 2 3]:=λk B=>by
  unfold Fl;rw[YcT,Ych,Yab,Yac B];rfl
 refine Ab func59 λw=>?_;rw[ntmps59];refine Go ?_;refine AF (λv c=>∃k,k<=min L.length 6/\v=min L.length 6-k/\c=⟨[(0,.d (rwD T L)),(1,.d (ex (.int .i64 (2:Nat)))),(2,.d (ex (.int .i64 2))),(3,.d (ex (.int .i64 (3:Nat)))),(4,.d (ex (.int .i64 (6:Nat)))),(11,.own 0),(12,.d (ex (.int .i64 (k:Nat))))],[.row 28 1 ((Fl L k).map λP=>[BP P])]⟩) ?le ⟨0,by omega,rfl,rfl⟩ ?round
 case le=>exact Ac Zel Zdz
 case round=>
  rintro v _ ⟨k,B,rfl,rfl⟩;by_cases O:k<min L.length 6
  .have d:k<L.length:=by omega
   have V:A3M (L.getD k default).2:=m _ (by rw[Yab,Yac d];exact Ybm _);have e:=A3Q (L.getD k default).1 (L.getD k default).2 2 3 2 V ZbG ZbG ZbG ZbG;have q:=X k d;have n:(Fl L k).length=min k L.length:=by simp[Fl]
   refine Go ?_;refine Ai (min L.length 6-(k+1)) ZbG ⟨k+1,by omega,rfl,rfl⟩ ?_;exact Ac Zel (by(refine HpLe.cons (OwLe.row (by rw[q,Ych];rfl)) ?_);exact HpLe.nil)
  .by_cases d:k<L.length
   .obtain rfl:k=min L.length 6:=by omega
    exact Zfx
   .obtain rfl:k=min L.length 6:=by omega
    exact Zfx
theorem Np(j:Int)(c:Clm):Abs prog 16 [ex (.int .i64 j),AQ (ED c)] (AQ [ex (.int .i64 j),Kc c.p,Du c.o]):=by
 refine Ab func16 λw=>?_;rw[ntmps16];exact ZfC
end
