/- Part 28. No condition. -/
import Derived.Test.YtcikkglcoeedlaaGreatDm18
import Derived.Test.YtcikkglcoeedlaaGreatDm19
import Derived.Test.YtcikkglcoeedlaaGreatDm20
import Derived.Test.YtcikkglcoeedlaaGreatDm21
import Derived.Test.YtcikkglcoeedlaaGreatDm22
import Derived.Test.YtcikkglcoeedlaaGreatDm23
import Derived.Test.YtcikkglcoeedlaaGreatDm24
import Derived.Test.YtcikkglcoeedlaaGreatDm27
set_option linter.all false
set_option maxRecDepth 100000
set_option maxHeartbeats 4000000
namespace Go.Proofs.YtcikkglcoeedlaaGreat
open _root_.Go.Proofs.Tryz
variable{l g:List Nat}{uC:List RTm}{n:Nat}{e:Type}{xk:Nat->e}{xj:RQ}{vE:Rd e}{uv:Type}{ug:e->List Nat}{ul:e->Prop}
section
open Go.RowKit
theorem A84{s t:Tm}(h:EF s=EF t):s=t:=by
 have q:decide (s.c.num<0)=decide (t.c.num<0):=congrArg RTm.b h;have A:Aw s.c.num.natAbs=Aw t.c.num.natAbs:=congrArg RTm.l h;have K:decide ((s.c.den:Int)<0)=decide ((t.c.den:Int)<0):=congrArg RTm.b' h;have Q:Aw (s.c.den:Int).natAbs=Aw (t.c.den:Int).natAbs:=congrArg RTm.l' h;have k:s.m=t.m:=congrArg RTm.m h;have W:=Rj q A;have o:=Rj K Q;have H:s.c.den=t.c.den:=by omega
 have O:s.c=t.c:=Rat.ext W H;cases s;cases t;simp only[Tm.mk.injEq];exact⟨O,k⟩
open Classical in
noncomputable def toT (r:RTm):Tm:=if h:∃t,EF t=r then h.choose else default
noncomputable def MO (p:List RTm):List Tm:=p.map toT
theorem A56(t:Tm):toT (EF t)=t:=by
 have h:∃V,EF V=EF t:=⟨t,rfl⟩;unfold toT;rw[dif_pos h];exact A84 h.choose_spec
theorem A0G{r:RTm}(h:QOk r.b r.l r.b' r.l'):EF (toT r)=r:=by
 obtain⟨q,W,o,H,O⟩:=h;have A:∃t,EF t=r:=⟨⟨q,r.m⟩,by cases r;simp only[EF,RTm.mk.injEq];exact⟨W.symm,o.symm,H.symm,O.symm,trivial⟩⟩;unfold toT;rw[dif_pos A];exact A.choose_spec
theorem Lj(P:List Tm):MO (P.map EF)=P:=by
 unfold MO;rw[Ycj]
 conv=>rhs;rw[<-Yep P]
 exact YaS λt _=>A56 t
theorem A0g(p:List RTm):(MO p).length=p.length:=by simp[MO]
theorem Vw(h:In uC):uC=(MO uC).map EF/\Canon (MO uC)/\PIn (MO uC) 0 65535:=by
 have q:uC=(MO uC).map EF:=by
  unfold MO;rw[Ycj]
  conv=>lhs;rw[<-Yep uC]
  refine YaS λr Y=>?_;obtain⟨k,B,e⟩:=YcM Y;have A:=(h k B).1.1;have K:Fo uC k=r:=by unfold Fo;exact Zhe
  rw[K]at A;exact(A0G A).symm
 obtain⟨P,E⟩:∃P,P=MO uC:=⟨_,rfl⟩;rw[<-E]at q ⊢;subst q;have v:∀k,k<P.length->Fo (P.map EF) k=EF (BA P k):=λk B=>VN B;have I:(P.map EF).length=P.length:=Yap _;refine⟨rfl,⟨AaI λk B c=>?_,λt L=>?_⟩,λt L=>?_⟩
 .have Q:=(h k (by rw [I]; exact B)).2 c
  rw[v k B,v (k-1) ZbC]at Q;exact Q
 .obtain ⟨k,B,e⟩:=YcM L
  have Q:=(h k (by rw[I];exact B)).1.2.1;have C:BA P k=t:=by unfold BA;exact Zhe
  rw[v k B,C]at Q;intro n;apply Q;show Aw t.c.num.natAbs=[];rw[n];exact BJ
 .obtain ⟨k,B,e⟩:=YcM L
  have Q:=(h k (by rw[I];exact B)).1.2.2;have C:BA P k=t:=by unfold BA;exact Zhe
  rw[v k B,C]at Q;exact Q
structure WZ(l:List Nat):Prop where
 s:BK l
 n:l.length<=10000
structure QZ(q:RQ):Prop where
 n:WZ q.l
 d:WZ q.l'
structure TZ(t:RTm):Prop where
 n:WZ t.l
 d:WZ t.l'
structure PZ(p:List RTm):Prop where
 t:∀r∈p,TZ r
 n:p.length<=40000
structure LZ{α:Type}(D:α->Prop)(l:List α):Prop where
 e:∀x∈l,D x
 n:l.length<=40000
theorem PZ.rt{p:List RTm}(h:PZ p):AbW p:=λr Y=>⟨(h.t r Y).n.s,(h.t r Y).d.s,by have:=(h.t r Y).n.n;omega,by have:=(h.t r Y).d.n;omega⟩
theorem PZ.sz(h:PZ uC)(r:In uC):PSz (MO uC) 10000:=λt L=>by
 obtain⟨q,_,_⟩:=Vw r;have v:EF t∈uC:=by rw[q];exact YbU L
 have A:=h.t _ v;exact⟨A.n.n,A.d.n⟩
theorem PZ.len{p:List RTm}(h:PZ p):(MO p).length<=40000:=by rw[A0g];exact h.n
def Vu(n d:Int)(p:List RTm):Prop:=In p/\OY (MO p)<2^n.toNat/\Im (MO p)<=d
theorem A86{P:List Tm}(q:PSz P n)(G:Canon P):PSz (Ea P) (1+P.length*n+n):=by
 by_cases c:P.length=0
 .unfold Ea
  rw[Yao c];intro t L;cases L
 .unfold Ea
  rw[Yaj c];exact Vz (NU P q G ZbC) q
def pAt(l:List (List RTm))(k:Nat):List RTm:=l.getD k default
def EqP(n C:Int)(p:List RTm):Prop:=Vu n 12 p/\C<=Im (MO p)/\Db (Ea (MO p)) (MO p)=0
def Nc(n C:Int)(l:List (List RTm)):Prop:=l.length<=12/\∀i,i<l.length->EqP n C (pAt l i)/\(0<i->Db (MO (pAt l (i-1))) (MO (pAt l i))<0)
def ON(k:Cor):Prop:=1<=k.n/\k.n<=4/\Nc k.n 0 k.e/\Nc k.n 1 k.f
structure CZ(k:Cor):Prop where
 n:IW k.n
 e:LZ PZ k.e
 f:LZ PZ k.f
theorem A2v{l:List (List RTm)}(h:n<l.length):pAt l n∈l:=BC h
theorem A9a{d:Int}(r:In uC):Vu (n:Int) d uC↔OY (MO uC)<2^n/\Im (MO uC)<=d:=⟨λh=>h.2,λh=>⟨r,h⟩⟩
open Classical in
theorem Qy(m:Nat)(v:1<=m/\m<=4)(e f:List (List RTm))(p:List RTm)(d:Int)(F:PZ p):Abs prog 154 [AP (Ef ⟨(m:Nat),e,f⟩),Lh p,eI d] (eB (decide (Vu (m:Nat) d p))):=by
 have M:=F.n;have W:=A1J p F.rt ZbC;by_cases r:In p
 .rw [Yal r]at W
  obtain⟨q,A,K⟩:=Vw r;have o:=F.len;have I:=A9a (n:=m) (d:=d) r;obtain⟨P,L⟩:∃P,P=MO p:=⟨_,rfl⟩;rw[<-L]at q A K o I;have B:=A4r P ZbC;have G:=ZM P K ZbC;have N:=Vx P;rw[KA,<-q]at B G;obtain⟨u,E⟩:∃u,u=OY P:=⟨_,rfl⟩;obtain⟨g,R⟩:∃g,g=Im P:=⟨_,rfl⟩;rw[<-E]at B I N;rw[<-R]at G I;have T:Min.min m IntKind.i64.bits=m:=Yby (by show m<=64;omega);obtain⟨x,C⟩:∃x,x=u/2^m:=⟨_,rfl⟩;have U:((u:Nat):Int).fdiv (2^m)=((x:Nat):Int):=by rw[Fd rfl,C]
  have V:x=0↔u<2^m:=by rw[C,Nat.div_eq_zero_iff];have:0<2^m:=Yem ZbH;omega
  by_cases Q:u<2^m
  .obtain rfl:=V.2 Q
   by_cases k:g<=d
   .rw [Yal (I.2 ⟨Q,k⟩)]
    refine Ab func154 λy=>?_;rw[ntmps154];refine Go ?_;refine Dy 18 ?_;refine DA ?_;exact Zhp
   .rw [Yad λh=>k (I.1 h).2]
    refine Ab func154 λy=>?_;rw[ntmps154];refine Go ?_;refine Dy 18 ?_;refine DA ?_;exact Zhp
  .have J:x≠0:=λe=>Q (V.1 e)
   rw[Yad λh=>Q (I.1 h).1];refine Ab func154 λy=>?_;rw[ntmps154];refine Go ?_;refine Dy 18 ?_;refine DA ?_;exact Zhp
 .rw [Yad r]at W
  rw[Yad λh:Vu (m:Nat) d p=>r h.1];refine Ab func154 λy=>?_;rw[ntmps154];refine Go ?_;refine Dy 18 ?_;exact Zhh
def A1P(n C:Int)(l:List (List RTm))(i:Nat):Prop:=EqP n C (pAt l i)/\(0<i->Db (MO (pAt l (i-1))) (MO (pAt l i))<0)
open Classical in
theorem RP(m:Nat)(v:1<=m/\m<=4)(e f l:List (List RTm))(i:Int)(n:LZ PZ l):Abs prog 152 [AP (Ef ⟨(m:Nat),e,f⟩),Iq l,eI i] (eB (decide (Nc (m:Nat) i l))):=by
 have xh:=n.n;by_cases o:l.length<=12
 .refine Ab func152 λy=>?_
  rw[ntmps152];refine Go ?_;refine AC (λw I=>∃k,k<=l.length/\w=l.length-k/\(∀j,j<k->A1P (m:Nat) i l j)/\I=⟨[(1,.d (Iq l)),(2,.d (eI i)),(3,.ptr 0 0),(12,.d (Iq l)),(13,.d (eN l.length)),(14,.d (eN k))],[.var 139 ((Ef ⟨(m:Nat),e,f⟩).map .d)]⟩) ?le ⟨0,by omega,rfl,λj X=>absurd X (Ybj j),rfl⟩ ?round
  case le=>exact Ac ZdW ZcB
  case round=>
   rintro w _ ⟨k,C,rfl,H,rfl⟩;by_cases O:k<l.length
   .have F:PZ (pAt l k):=n.e _ (A2v O)
    have T:=F.n;obtain⟨p,r⟩:∃p,p=pAt l k:=⟨_,rfl⟩;have c:=λh:Nc (m:Nat) i l=>h.2 k O;rw[<-r]at F T c;have W:=Qy m v e f p 12 F;by_cases E:Vu (m:Nat) 12 p
    .rw [Yal E]at W
     obtain⟨A,B,K⟩:=Vw E.1;have o:=F.len;have S:=F.sz E.1;obtain⟨P,N⟩:∃P,P=MO p:=⟨_,rfl⟩
     have Z:EqP (m:Nat) i p↔i<=Im P/\Db (Ea P) P=0:=by
      rw[N];exact⟨λh=>h.2,λh=>⟨E,h⟩⟩
     rw[<-N]at A B K o S c;have xa:P.length*10000<=400000000:=YaC 10000 o;have cD:=ZM P K ZbC;have t:=A1L P 10000 S B K ZbC ZbC;have u:=Vp (Ea P) P ((A86 S B).mono ZbC) (S.mono ZbC) (by rw[NT];omega) ZbC;rw[KA P,<-A]at cD t u;obtain⟨g,R⟩:∃g,g=Im P:=⟨_,rfl⟩;rw[<-R]at cD Z;have xg:=r;subst r;by_cases G:i<=g
     .by_cases J:Db (Ea P) P=0
      .rw [Yal J]at u
       by_cases d:k=0
       .have xb:∀j,j<k+1->A1P (m:Nat) i l j:=λj X=>by
         obtain rfl:j=k:=by omega
         exact⟨Z.2 ⟨G,J⟩,λh=>absurd h ZbC⟩
        obtain rfl:=d;refine Go ?_;refine Ai (l.length-(0+1)) ZbC ⟨0+1,by omega,rfl,xb,rfl⟩ ?_;exact Ac ZdW ZcB
       .have L:PZ (pAt l (k-1)):=n.e _ (A2v ZbC)
        have x:=(H (k-1) ZbC).1.1;obtain⟨Y,a,b⟩:=Vw x.1;have xf:=L.len;have xd:=L.sz x.1;obtain⟨q,xc⟩:∃q,q=pAt l (k-1):=⟨_,rfl⟩;rw[<-xc]at L Y a b xf xd;obtain⟨Q,V⟩:∃Q,Q=MO q:=⟨_,rfl⟩;rw[<-V]at Y a b xf xd;have s:=A7e Q P (xd.mono ZbC) (S.mono ZbC) ZbC ZbC;rw[KA P,<-A,KA Q,<-Y]at s;obtain⟨z,U⟩:∃z,z=Db Q P:=⟨_,rfl⟩;rw[<-U]at s;have xe:=xc;subst xc;by_cases M:z<0
        .have xb:∀j,j<k+1->A1P (m:Nat) i l j:=λj X=>by
          rcases YaI j k with X | X
          .exact H j X
          .obtain rfl:j=k:=by omega
           exact⟨Z.2 ⟨G,J⟩,λ_=>by rw[<-xe,<-N,<-V,<-U];exact M⟩
         apply Y1;refine Wq Bc ?_;refine Y0<|Ah<|Ct<|Ys<|Ah<|AWp.block<|Y1<|Wm ?_;refine Wq Dt ?_;refine Wq AT ?_;refine Wa<|Wa<|Y0<|Ah<|Y1 ?_;refine Wq AF ?_;refine Wm ?_;refine Wq (AJ (W)) ?_;refine Wq GD ?_;refine Wm ?_;refine Wg AQ ?_;refine Wg (AJ (cD)) ?_;refine Wg AQ ?_;refine Wg AL ?_;refine Wq BT ?_;refine Y0<|Cf<|Ys<|Ah<|Y1<|Wm ?_;refine Wq (AJ (t)) ?_;refine Wm ?_;refine Wq (AJ (u)) ?_;refine Wq GD ?_;refine Y0<|Cf<|Ys<|Y1<|Wm ?_;refine Wq Bc ?_;refine Wm ?_;refine Wg AQ ?_;refine Wg AQ ?_;refine Wg (Jy (ao rfl) (ao rfl) ZbC ZbC) ?_;refine Wg Dt ?_;refine Wg AT ?_;refine Wg AQ ?_;refine Wg (AJ (s)) ?_;refine Wg AL ?_;refine Wq Cw ?_;refine Y0<|Cf<|Hl<|Bg<|Yn<|AWp.region ?_;refine Wq CL ?_;refine Wm<|AWl.nil ?_
         refine Ai (l.length-(k+1)) ZbC ⟨k+1,by omega,rfl,xb,rfl⟩ ?_;exact Ac ZdW ZcB
        .rw [Yad λh=>M (by have:=(c h).2 ZbC; rw [<-xe, <-V, <-U] at this; exact this)]
         apply Y1;refine Wq Bc ?_;refine Y0<|Ah<|Ct<|Ys<|Ah<|AWp.block<|Y1<|Wm ?_;refine Wq Dt ?_;refine Wq AT ?_;refine Wa<|Wa<|Y0<|Ah<|Y1 ?_;refine Wq AF ?_;refine Wm ?_;refine Wq (AJ (W)) ?_;refine Wq GD ?_;refine Wm ?_;refine Wg AQ ?_;refine Wg (AJ (cD)) ?_;refine Wg AQ ?_;refine Wg AL ?_;refine Wq BT ?_;refine Y0<|Cf<|Ys<|Ah<|Y1<|Wm ?_;refine Wq (AJ (t)) ?_;refine Wm ?_;refine Wq (AJ (u)) ?_;refine Wq GD ?_;refine Y0<|Cf<|Ys<|Y1<|Wm ?_;refine Wq Bc ?_;refine Wm ?_;refine Wg AQ ?_;refine Wg AQ ?_;refine Wg (Jy (ao rfl) (ao rfl) ZbC ZbC) ?_;refine Wg Dt ?_;refine Wg AT ?_;refine Wg AQ ?_;refine Wg (AJ (s)) ?_;refine Wg Bc ?_;refine Wq Cw ?_;refine Y0<|Ct<|Y1<|Wa<|Y0<|BR<|DX<|Dv<|IJ<|DX<|Dv ?_
         exact Yf
      .rw [Yad J]at u
       rw[Yad λh=>J (Z.1 (c h).1).2];exact Zfz
     .rw [Yad λh=>G (Z.1 (c h).1).1]
      exact Zfz
    .rw [Yad E]at W
     subst r;rw[Yad λh=>E (c h).1.1];exact Zfz
   .obtain rfl:k=l.length:=by omega
    rw[Yal (show Nc (m:Nat) i l from⟨o,H⟩)];exact Zfz
 .rw [Yad λh:Nc (m:Nat) i l=>o h.1]
  refine Ab func152 λy=>?_;rw[ntmps152];exact Zfz
open Classical
theorem Acu{P:(List RTm)->Prop}{F:D}(T:TypeId)(L:List (List RTm))(hF:∀x∈L,FnAbs prog F [Lh x] (eB (decide (P x))))(g:L.length<=40000):Abs prog 300 [slD T 1 (L.map λp=>[Lh p]),F] (eB (decide (∀x∈L,P x))):=by
 refine Ab func300 λy=>?_;rw[ntmps300];refine Go ?_;refine AC (λw A=>∃k,k<=L.length/\w=L.length-k/\(∀j,j<k->P (L.getD j default))/\A=⟨[(1,.d F),(7,.d (slD T 1 (L.map λp=>[Lh p]))),(8,.d (eN L.length)),(9,.d (eN k))],[]⟩) ?le ⟨0,by omega,rfl,λj X=>absurd X (Ybj j),rfl⟩ ?round
 case le=>exact Zkk
 case round=>
  exact Zbj
theorem Acs{P:(List (List RTm))->Prop}{F:D}(T:TypeId)(L:List (List (List RTm)))(hF:∀x∈L,FnAbs prog F [Iq x] (eB (decide (P x))))(g:L.length<=40000):Abs prog 255 [slD T 1 (L.map λp=>[Iq p]),F] (eB (decide (∀x∈L,P x))):=by
 refine Ab func255 λy=>?_;rw[ntmps255];refine Go ?_;refine AC (λw A=>∃k,k<=L.length/\w=L.length-k/\(∀j,j<k->P (L.getD j default))/\A=⟨[(1,.d F),(7,.d (slD T 1 (L.map λp=>[Iq p]))),(8,.d (eN L.length)),(9,.d (eN k))],[]⟩) ?le ⟨0,by omega,rfl,λj X=>absurd X (Ybj j),rfl⟩ ?round
 case le=>exact Zkk
 case round=>
  exact Zbj
theorem A9D{P:(List RQ)->Prop}{F:D}(T:TypeId)(L:List (List RQ))(hF:∀x∈L,FnAbs prog F [Hn x] (eB (decide (P x))))(g:L.length<=40000):Abs prog 253 [slD T 1 (L.map λp=>[Hn p]),F] (eB (decide (∀x∈L,P x))):=by
 refine Ab func253 λy=>?_;rw[ntmps253];refine Go ?_;refine AC (λw A=>∃k,k<=L.length/\w=L.length-k/\(∀j,j<k->P (L.getD j default))/\A=⟨[(1,.d F),(7,.d (slD T 1 (L.map λp=>[Hn p]))),(8,.d (eN L.length)),(9,.d (eN k))],[]⟩) ?le ⟨0,by omega,rfl,λj X=>absurd X (Ybj j),rfl⟩ ?round
 case le=>exact Zkk
 case round=>
  exact Zbj
theorem Acw{P:(Int)->Prop}{F:D}(T:TypeId)(L:List (Int))(hF:∀x∈L,FnAbs prog F [eI x] (eB (decide (P x))))(g:L.length<=40000):Abs prog 159 [slD T 1 (L.map λz=>[eI z]),F] (eB (decide (∀x∈L,P x))):=by
 refine Ab func159 λy=>?_;rw[ntmps159];refine Go ?_;refine AC (λw A=>∃k,k<=L.length/\w=L.length-k/\(∀j,j<k->P (L.getD j default))/\A=⟨[(1,.d F),(7,.d (slD T 1 (L.map λz=>[eI z]))),(8,.d (eN L.length)),(9,.d (eN k))],[]⟩) ?le ⟨0,by omega,rfl,λj X=>absurd X (Ybj j),rfl⟩ ?round
 case le=>exact Zkk
 case round=>
  exact Zbj
theorem Acq{P:(RQ)->Prop}{F:D}(T:TypeId)(L:List (RQ))(hF:∀x∈L,FnAbs prog F [AP (Hv x)] (eB (decide (P x))))(g:L.length<=40000):Abs prog 304 [slD T 4 (L.map Hv),F] (eB (decide (∀x∈L,P x))):=by
 refine Ab func304 λy=>?_;rw[ntmps304];refine Go ?_;refine AC (λw A=>∃k,k<=L.length/\w=L.length-k/\(∀j,j<k->P (L.getD j default))/\A=⟨[(1,.d F),(7,.d (slD T 4 (L.map Hv))),(8,.d (eN L.length)),(9,.d (eN k))],[]⟩) ?le ⟨0,by omega,rfl,λj X=>absurd X (Ybj j),rfl⟩ ?round
 case le=>exact Zkk
 case round=>
  exact Zbj
theorem Acv{P:(RQ×RQ)->Prop}{F:D}(T:TypeId)(L:List (RQ×RQ))(hF:∀x∈L,FnAbs prog F [AP (Ju x)] (eB (decide (P x))))(g:L.length<=40000):Abs prog 169 [slD T 8 (L.map Ju),F] (eB (decide (∀x∈L,P x))):=by
 refine Ab func169 λy=>?_;rw[ntmps169];refine Go ?_;refine AC (λw A=>∃k,k<=L.length/\w=L.length-k/\(∀j,j<k->P (L.getD j default))/\A=⟨[(1,.d F),(7,.d (slD T 8 (L.map Ju))),(8,.d (eN L.length)),(9,.d (eN k))],[]⟩) ?le ⟨0,by omega,rfl,λj X=>absurd X (Ybj j),rfl⟩ ?round
 case le=>exact Zkk
 case round=>
  exact Zbj
theorem Acp{P:(RQ×List RTm)->Prop}{F:D}(T:TypeId)(L:List (RQ×List RTm))(hF:∀x∈L,FnAbs prog F [AP (JF x)] (eB (decide (P x))))(g:L.length<=40000):Abs prog 172 [slD T 5 (L.map JF),F] (eB (decide (∀x∈L,P x))):=by
 refine Ab func172 λy=>?_;rw[ntmps172];refine Go ?_;refine AC (λw A=>∃k,k<=L.length/\w=L.length-k/\(∀j,j<k->P (L.getD j default))/\A=⟨[(1,.d F),(7,.d (slD T 5 (L.map JF))),(8,.d (eN L.length)),(9,.d (eN k))],[]⟩) ?le ⟨0,by omega,rfl,λj X=>absurd X (Ybj j),rfl⟩ ?round
 case le=>exact Zkk
 case round=>
  exact Zbj
theorem Acr{P:(Nat->RQ)->Prop}{F:D}(T:TypeId)(L:List (Nat->RQ))(hF:∀x∈L,FnAbs prog F [AP (MR x)] (eB (decide (P x))))(g:L.length<=40000):Abs prog 175 [slD T 32 (L.map MR),F] (eB (decide (∀x∈L,P x))):=by
 refine Ab func175 λy=>?_;rw[ntmps175];refine Go ?_;refine AC (λw A=>∃k,k<=L.length/\w=L.length-k/\(∀j,j<k->P (L.getD j default))/\A=⟨[(1,.d F),(7,.d (slD T 32 (L.map MR))),(8,.d (eN L.length)),(9,.d (eN k))],[]⟩) ?le ⟨0,by omega,rfl,λj X=>absurd X (Ybj j),rfl⟩ ?round
 case le=>exact Zkk
 case round=>
  exact Zbj
theorem Acx{P:(Nat->RQ×RQ)->Prop}{F:D}(T:TypeId)(L:List (Nat->RQ×RQ))(hF:∀x∈L,FnAbs prog F [AP (DB x)] (eB (decide (P x))))(g:L.length<=40000):Abs prog 247 [slD T 64 (L.map DB),F] (eB (decide (∀x∈L,P x))):=by
 refine Ab func247 λy=>?_;rw[ntmps247];refine Go ?_;refine AC (λw A=>∃k,k<=L.length/\w=L.length-k/\(∀j,j<k->P (L.getD j default))/\A=⟨[(1,.d F),(7,.d (slD T 64 (L.map DB))),(8,.d (eN L.length)),(9,.d (eN k))],[]⟩) ?le ⟨0,by omega,rfl,λj X=>absurd X (Ybj j),rfl⟩ ?round
 case le=>exact Zkk
 case round=>
  exact Zbj
def QV(q:RQ):Prop:=QOk q.b q.l q.b' q.l'
noncomputable def OQ (q:RQ):Rat:=(toT ⟨q.b,q.l,q.b',q.l',λ_=>0⟩).c
theorem A0h(h:QV xj):DE (OQ xj)=Hv xj:=by
 have q:=A0G (r:=⟨xj.b,xj.l,xj.b',xj.l',λ_=>0⟩) h;unfold OQ;obtain⟨t,L⟩:∃t,t=toT ⟨xj.b,xj.l,xj.b',xj.l',λ_=>0⟩:=⟨_,rfl⟩;rw[<-L]at q ⊢;have W:=congrArg RTm.b q;have o:=congrArg RTm.l q;have H:=congrArg RTm.b' q;have O:=congrArg RTm.l' q;simp only[EF]at W o H O;rw[Hv,A5B,<-W,<-o,<-H,<-O];rfl
def Mq(q:Rat):RQ:=⟨decide (q.num<0),Aw q.num.natAbs,decide ((q.den:Int)<0),Aw (q.den:Int).natAbs⟩
theorem OJ(q:Rat):QV (Mq q):=⟨q,rfl,rfl,rfl,rfl⟩
theorem OZ(q:Rat):OQ (Mq q)=q:=congrArg Tm.c (A56 ⟨q,λ_=>0⟩)
theorem QZ.sz(n:QZ xj)(h:QV xj):RSz (OQ xj) 10000:=by
 have q:=A0G (r:=⟨xj.b,xj.l,xj.b',xj.l',λ_=>0⟩) h;have o:=congrArg RTm.l q;have O:=congrArg RTm.l' q;simp only[EF]at o O;exact⟨by show(Aw _).length<=_;rw[show Aw (OQ xj).num.natAbs=xj.l from o];exact n.n.n,by show(Aw _).length<=_;rw[show Aw (OQ xj).den=xj.l' from O];exact n.d.n⟩
theorem Hx(q:RQ)(n:QZ q):Abs prog 251 [AP (Hv q)] (eB (decide (QV q))):=
 Sb q.b q.l q.b' q.l' n.n.s n.d.s (by have:=n.n.n;omega) (by have:=n.d.n;omega)
theorem Pg(q:RQ)(h:QV q):Abs prog 137 [AP (Hv q)] (eI ((OQ q).num.sign)):=by
 have:=EQ (OQ q);rwa [A0h h]at this
def ZeP(q:RQ):Prop:=QV q/\OQ q=0
def IvP(a:RQ×RQ):Prop:=QV a.1/\QV a.2/\IR (OQ a.1) (OQ a.2)<=0
def VZ(a:RQ×RQ):Prop:=QZ a.1/\QZ a.2
theorem SB(q:RQ)(n:QZ q):Abs prog 301 [AP (Hv q)] (eB (decide (ZeP q))):=by
 have W:=Hx q n;by_cases h:QV q
 .rw [Yal h]at W
  have K:=Pg q h;by_cases c:OQ q=0
  .rw [DL.2 c]at K
   rw[Yal (show ZeP q from⟨h,c⟩)];refine Ab func301 λy=>?_;rw[ntmps301];exact Zfz
  .have a:(OQ q).num.sign≠0:=λe=>c (DL.1 e)
   rw[Yad λb:ZeP q=>c b.2];refine Ab func301 λy=>?_;rw[ntmps301];exact Zfz
 .rw [Yad h]at W
  rw[Yad λb:ZeP q=>h b.1];refine Ab func301 λy=>?_;rw[ntmps301];exact Zfz
theorem LE(a:RQ×RQ)(n:VZ a):Abs prog 170 [AP (Ju a)] (eB (decide (IvP a))):=by
 have W:=Hx a.1 n.1;have q:=Hx a.2 n.2;by_cases h:QV a.1
 .rw [Yal h]at W
  by_cases A:QV a.2
  .rw [Yal A]at q
   have F:=NP (OQ a.1) (OQ a.2) ((n.1.sz h).mono ZbC) ((n.2.sz A).mono ZbC);rw[A0h h,A0h A]at F;obtain⟨z,B⟩:∃z,z=IR (OQ a.1) (OQ a.2):=⟨_,rfl⟩;rw[<-B]at F;by_cases K:z<=0
   .rw [Yal (show IvP a from⟨h,A,B▸K⟩)]
    exact ZiQ
   .rw [Yad λb:IvP a=>K (B▸b.2.2)]
    exact ZiQ
  .rw [Yad A]at q
   rw[Yad λb:IvP a=>A b.2.1];exact ZiQ
 .rw [Yad h]at W
  rw[Yad λb:IvP a=>h b.1];exact ZiQ
def SmI(z:Int):Prop:=0<=z/\z<=1000000
def SgP(z:Int):Prop:=-1<=z/\z<=1
theorem YP(z:Int):Abs prog 157 [eI z] (eB (decide (SmI z))):=by
 by_cases c:0<=z
 .by_cases q:z<=1000000
  .rw [Yal (show SmI z from⟨c,q⟩)]
   refine Ab func157 λy=>?_;rw[ntmps157];exact Zfz
  .rw [Yad λh:SmI z=>q h.2]
   refine Ab func157 λy=>?_;rw[ntmps157];exact Zfz
 .rw [Yad λh:SmI z=>c h.1]
  refine Ab func157 λy=>?_;rw[ntmps157];exact Zfz
theorem A0T(z:Int):Abs prog 160 [eI z] (eB (decide (SgP z))):=by
 by_cases c:-1<=z
 .by_cases q:z<=1
  .rw [Yal (show SgP z from⟨c,q⟩)]
   refine Ab func160 λy=>?_;rw[ntmps160];exact Zfz
  .rw [Yad λh:SgP z=>q h.2]
   refine Ab func160 λy=>?_;rw[ntmps160];exact Zfz
 .rw [Yad λh:SgP z=>c h.1]
  refine Ab func160 λy=>?_;rw[ntmps160];exact Zfz
def ShP(l:List RQ):Prop:=l.length<=65/\(∀q∈l,QV q)/\(l.length=0\/OQ (l.getD (l.length-1) default)≠0)
theorem Qo(l:List RQ)(T:TypeId)(n:LZ QZ l):Abs prog 252 [slD T 4 (l.map Hv)] (eB (decide (ShP l))):=by
 have g:=n.n;by_cases c:l.length<=65
 .have W:=Acq (P:=QV) (F:=ex (.func (.func 251) #[] #[])) T l (λx C=>FnAbs.ex (Hx x (n.e x C))) g
  by_cases A:∀q∈l,QV q
  .rw [Yal A]at W
   by_cases B:l.length=0
   .rw [Yal (show ShP l from⟨c,A,.inl B⟩)]
    refine Ab func252 λy=>?_;rw[ntmps252];exact Zfz
   .have m:=A _ (BC (l:=l) (k:=l.length-1) ZbC)
    have E:=Pg _ m;by_cases K:OQ (l.getD (l.length-1) default)=0
    .rw [DL.2 K]at E
     rw[Yad λh:ShP l=>h.2.2.elim B λh=>h K];refine Ab func252 λy=>?_;rw[ntmps252];refine Y1<|Wa<|Y0<|Y1<|Wm ?_;refine Wq BH ?_;refine Wa<|Y0<|Y1<|Wm ?_;refine Wq A2Z ?_;refine Wq Bc ?_;refine Wm ?_;refine Wg AQ ?_;refine Wg (AJ (W)) ?_;refine Wq Cw ?_;refine Wm ?_;refine Wg AQ ?_;refine Wg AL ?_;refine Wg AQ ?_;refine Wg AQ ?_;refine Wg AQ ?_;refine Wg (Jy (ao rfl) (ao rfl) ZbC ZbC) ?_;refine Wg Dt ?_;refine Wg Ca ?_;refine Wg (AJ (E)) ?_;refine Wg AL ?_;refine Wg BT ?_;refine Wq Cw ?_;refine Wa<|Y0<|BR ?_
     exact Yf
    .have a:(OQ (l.getD (l.length-1) default)).num.sign≠0:=λe=>K (DL.1 e)
     rw[Yal (show ShP l from⟨c,A,.inr K⟩)];refine Ab func252 λy=>?_;rw[ntmps252];refine Y1<|Wa<|Y0<|Y1<|Wm ?_;refine Wq BH ?_;refine Wa<|Y0<|Y1<|Wm ?_;refine Wq A2Z ?_;refine Wq Bc ?_;refine Wm ?_;refine Wg AQ ?_;refine Wg (AJ (W)) ?_;refine Wq Cw ?_;refine Wm ?_;refine Wg AQ ?_;refine Wg AL ?_;refine Wg AQ ?_;refine Wg AQ ?_;refine Wg AQ ?_;refine Wg (Jy (ao rfl) (ao rfl) ZbC ZbC) ?_;refine Wg Dt ?_;refine Wg Ca ?_;refine Wg (AJ (E)) ?_;refine Wg Bc ?_;refine Wg BT ?_;refine Wq Cw ?_;refine Wa<|Y0<|BR ?_
     exact Yf
  .rw [Yad A]at W
   rw[Yad λh:ShP l=>A h.2.1];refine Ab func252 λy=>?_;rw[ntmps252];exact Zfz
 .rw [Yad λh:ShP l=>c h.1]
  refine Ab func252 λy=>?_;rw[ntmps252];exact Zfz
theorem OX(k:Cor)(A:CZ k):Abs prog 76 [AP (Ef k)] (eB (decide (ON k))):=by
 obtain⟨n,e,f⟩:=k;by_cases q:1<=n
 .by_cases Q:n<=4
  .obtain ⟨m, rfl⟩:∃m:Nat, n=(m:Int):=⟨n.toNat, by omega⟩
   have W:=RP m ⟨by omega,by omega⟩ e f e 0 A.e;have K:=RP m ⟨by omega,by omega⟩ e f f 1 A.f;by_cases a:Nc (m:Nat) 0 e
   .rw [Yal a]at W
    by_cases L:Nc (m:Nat) 1 f
    .rw [Yal L]at K
     rw[Yal (show ON ⟨(m:Nat),e,f⟩from⟨q,Q,a,L⟩)];exact Zif
    .rw [Yad L]at K
     rw[Yad λh:ON ⟨(m:Nat),e,f⟩=>L h.2.2.2];exact Zif
   .rw [Yad a]at W
    rw[Yad λh:ON ⟨(m:Nat),e,f⟩=>a h.2.2.1];exact Zif
  .rw [Yad λh:ON ⟨n,e,f⟩=>Q h.2.1]
   exact Zif
 .rw [Yad λh:ON ⟨n,e,f⟩=>q h.1]
  exact Zif
theorem Vk(k:Cor)(n:CZ k):Abs prog 32 [AP (Ef k)] (eB (decide (ON k))):=by
 refine Ab func32 λy=>?_;rw[ntmps32];have U:=OX k n;exact Zfz
def NV(k:Cor):Prop:=1<=k.n/\k.n<=4
theorem WR(k:Cor)(B:NV k)(p:List RTm)(d:Int)(F:PZ p):Abs prog 154 [AP (Ef k),Lh p,eI d] (eB (decide (Vu k.n d p))):=by
 obtain⟨n,e,f⟩:=k;obtain⟨m,rfl⟩:∃m:Nat,n=(m:Int):=⟨n.toNat,by have:=B.1;have:1<=n:=this;omega⟩;exact Qy m ⟨by have:=B.1;have:1<=((m:Nat):Int):=this;omega,by have:=B.2;have:((m:Nat):Int)<=4:=this;omega⟩ e f p d F
theorem A2I(k:Cor)(B:NV k)(p:List RTm)(F:PZ p):Abs prog 254 [AP (Ef k),Lh p] (eB (decide (Vu k.n 64 p))):=by
 refine Ab func254 λy=>?_;rw[ntmps254];have b:=WR k B p 64 F;exact Zfz
def Nf(n:Int)(l:List (List RTm)):Prop:=∀p∈l,Vu n 64 p
theorem SH(k:Cor)(B:NV k)(l:List (List RTm))(n:LZ PZ l):Abs prog 246 [AP (Ef k),Iq l] (eB (decide (Nf k.n l))):=by
 have W:=Acu (P:=Vu k.n 64) (F:=fvD 254 [AP (Ef k)] []) 28 l (λx C=>Mg (A2I k B x (n.e x C))) n.n;refine Ab func246 λy=>?_;rw[ntmps246];refine Go ?_;refine Wq (Mb Zcq Zdp) ?_;refine Go ?_;exact AA (Am (ResV.tmp rfl rfl) (Ae (congrArg (λb=>eB b) (YcO.2 Ydt))))
def JA(n:Int)(l:List (List RTm)):Prop:=l.length<=64/\Nf n l
theorem Sz(k:Cor)(B:NV k)(l:List (List RTm))(n:LZ PZ l):Abs prog 156 [AP (Ef k),Iq l] (eB (decide (JA k.n l))):=by
 have g:=n.n;have W:=SH k B l n;by_cases q:l.length<=64
 .by_cases A:Nf k.n l
  .rw [Yal A]at W
   rw[Yal (show JA k.n l from⟨q,A⟩)];refine Ab func156 λy=>?_;rw[ntmps156];exact Zfz
  .rw [Yad A]at W
   rw[Yad λh:JA k.n l=>A h.2];refine Ab func156 λy=>?_;rw[ntmps156];exact Zfz
 .rw [Yad λh:JA k.n l=>q h.1]
  refine Ab func156 λy=>?_;rw[ntmps156];exact Zfz
def A1f(n:Int)(c:Int)(l:List (List RTm)):Prop:=(l.length:Int)=c/\Nf n l
def JK(n:Int)(r c:Int)(t:List (List (List RTm))):Prop:=(t.length:Int)=r/\∀l∈t,A1f n c l
theorem A7W(k:Cor)(B:NV k)(c:Int)(l:List (List RTm))(n:LZ PZ l):Abs prog 256 [Iq l,Fk 3 [eI c],Fk 139 (Ef k)] (eB (decide (A1f k.n c l))):=by
 have g:=n.n;have W:=SH k B l n;by_cases q:(l.length:Int)=c
 .subst q
  by_cases A:Nf k.n l
  .rw [Yal A]at W
   rw[Yal (show A1f k.n (l.length:Nat) l from⟨rfl,A⟩)];refine Ab func256 λy=>?_;rw[ntmps256];exact Zfz
  .rw [Yad A]at W
   rw[Yad λh:A1f k.n (l.length:Nat) l=>A h.2];refine Ab func256 λy=>?_;rw[ntmps256];exact Zfz
 .rw [Yad λh:A1f k.n c l=>q h.1]
  refine Ab func256 λy=>?_;rw[ntmps256];exact Zfz
theorem JP(k:Cor)(B:NV k)(r c:Int)(t:List (List (List RTm)))(n:LZ (LZ PZ) t):Abs prog 174 [AP (Ef k),TI t,eI r,eI c] (eB (decide (JK k.n r c t))):=by
 have g:=n.n;have W:=Acs (P:=A1f k.n c) (F:=fvD 256 [] [Fk 3 [eI c],Fk 139 (Ef k)]) 24 t (λx C=>Mg (A7W k B c x (n.e x C))) n.n;by_cases q:(t.length:Int)=r
 .subst q
  by_cases A:∀l∈t,A1f k.n c l
  .rw [Yal A]at W
   rw[Yal (show JK k.n (t.length:Nat) c t from⟨rfl,A⟩)];refine Ab func174 λy=>?_;rw[ntmps174];apply Y1;refine Bx ?_;refine XG (ao rfl) rfl rfl rfl rfl rfl ?_;refine Wa<|Y0 ?_;refine CM 0 4 rfl rfl rfl ?_;refine CM (ds:=[_]) 1 7 rfl rfl rfl ?_;refine Y1<|Wm ?_;refine Wq BH ?_;refine Wm ?_;refine Wq Bc ?_;refine Wm ?_;refine Wg AQ ?_;refine Wg (Mb Zdp ZdV) ?_;refine Wg (AJ (W)) ?_;refine Wq Cw ?_;refine Wa<|Y0<|BR ?_
   exact Yf
  .rw [Yad A]at W
   rw[Yad λh:JK k.n (t.length:Nat) c t=>A h.2];refine Ab func174 λy=>?_;rw[ntmps174];apply Y1;refine Bx ?_;refine XG (ao rfl) rfl rfl rfl rfl rfl ?_;refine Wa<|Y0 ?_;refine CM 0 4 rfl rfl rfl ?_;refine CM (ds:=[_]) 1 7 rfl rfl rfl ?_;refine Y1<|Wm ?_;refine Wq BH ?_;refine Wm ?_;refine Wq Bc ?_;refine Wm ?_;refine Wg AQ ?_;refine Wg (Mb Zdp ZdV) ?_;refine Wg (AJ (W)) ?_;refine Wq Cw ?_;refine Wa<|Y0<|BR ?_
   exact Yf
 .rw [Yad λh:JK k.n r c t=>q h.1]
  refine Ab func174 λy=>?_;rw[ntmps174];exact Zfz
def SqP(n:Int)(s:RQ×List RTm):Prop:=QV s.1/\Vu n 64 s.2
def SZ(s:RQ×List RTm):Prop:=QZ s.1/\PZ s.2
theorem A0m(k:Cor)(B:NV k)(s:RQ×List RTm)(n:SZ s):Abs prog 173 [AP (Ef k),AP (JF s)] (eB (decide (SqP k.n s))):=by
 have W:=Hx s.1 n.1;have K:=A2I k B s.2 n.2;by_cases q:QV s.1
 .rw [Yal q]at W
  by_cases A:Vu k.n 64 s.2
  .rw [Yal A]at K
   rw[Yal (show SqP k.n s from⟨q,A⟩)];refine Ab func173 λy=>?_;rw[ntmps173];exact Zfz
  .rw [Yad A]at K
   rw[Yad λh:SqP k.n s=>A h.2];refine Ab func173 λy=>?_;rw[ntmps173];exact Zfz
 .rw [Yad q]at W
  rw[Yad λh:SqP k.n s=>q h.1];refine Ab func173 λy=>?_;rw[ntmps173];exact Zfz
def A7v(n:Int)(f:Nat->RQ×RQ)(i:Nat):Prop:=((i:Int)<n->IvP (f i))/\(n<=(i:Int)->ZeP (f i).1/\ZeP (f i).2)
def BxP(n:Int)(f:Nat->RQ×RQ):Prop:=∀i,i<8->A7v n f i
theorem A8N(k:Cor)(g:Nat->RQ×RQ)(F:FG VZ g):Abs prog 248 [AP (Ef k),AP (DB g)] (eB (decide (BxP k.n g))):=by
 obtain⟨n,e,f⟩:=k;refine Ab func248 λy=>?_;rw[ntmps248];refine Go ?_;refine AC (λw C=>∃k,k<=8/\w=8-k/\(∀j,j<k->A7v n g j)/\C=⟨[(2,.ptr 0 0),(7,.d (AP (DB g))),(8,.d (eN k))],[.var 139 ((Ef ⟨n,e,f⟩).map .d)]⟩) ?le ⟨0,by omega,rfl,λj X=>absurd X (Ybj j),rfl⟩ ?round
 case le=>exact Ac Zcf ZcB
 case round=>
  rintro w _ ⟨k,B,rfl,H,rfl⟩;by_cases O:k<8
  .have r:=F k O
   have T:A7v n g k->∀j,j<k+1->A7v n g j:=λh j X=>Zbk
   by_cases G:(k:Int)<n
   .have W:=LE (g k) r
    by_cases q:IvP (g k)
    .rw [Yal q]at W
     have E:=T ⟨λ_=>q,λh=>absurd h ZbC⟩;refine ZfJ ?_;refine Go ?_;exact Zir
    .rw [Yad q]at W
     rw[Yad λh:BxP n g=>q ((h k O).1 G)];exact ZiH
   .have W:=SB (g k).1 r.1
    have K:=SB (g k).2 r.2;by_cases q:ZeP (g k).1
    .rw [Yal q]at W
     by_cases A:ZeP (g k).2
     .rw [Yal A]at K
      have E:=T ⟨λh=>absurd h G,λ_=>⟨q,A⟩⟩;refine ZfJ ?_;refine Go ?_;exact Zir
     .rw [Yad A]at K
      rw[Yad λh:BxP n g=>A ((h k O).2 ZbC).2];exact ZiH
    .rw [Yad q]at W
     rw[Yad λh:BxP n g=>q ((h k O).2 ZbC).1];exact ZiH
  .obtain rfl:k=8:=by omega
   rw[Yal (show BxP n g from H)];exact Zfz
def TA(n:Int)(l:List (Nat->RQ×RQ)):Prop:=l.length<=64/\∀g∈l,BxP n g
theorem Ve(k:Cor)(l:List (Nat->RQ×RQ))(n:LZ (FG VZ) l):Abs prog 158 [AP (Ef k),Gl l] (eB (decide (TA k.n l))):=by
 have B:=n.n;have W:=Acx (P:=BxP k.n) (F:=fvD 248 [AP (Ef k)] []) 131 l (λx C=>Mg (A8N k x (n.e x C))) n.n;by_cases q:l.length<=64
 .by_cases A:∀g∈l,BxP k.n g
  .rw [Yal A]at W
   rw[Yal (show TA k.n l from⟨q,A⟩)];refine Ab func158 λy=>?_;rw[ntmps158];refine Go ?_;refine Wg (Mb Zcq Zdp) ?_;exact Zfz
  .rw [Yad A]at W
   rw[Yad λh:TA k.n l=>A h.2];refine Ab func158 λy=>?_;rw[ntmps158];refine Go ?_;refine Wg (Mb Zcq Zdp) ?_;exact Zfz
 .rw [Yad λh:TA k.n l=>q h.1]
  refine Ab func158 λy=>?_;rw[ntmps158];exact Zfz
def A8Z(n:Int)(x:Nat->RQ)(i:Nat):Prop:=QV (x i)/\(n<=(i:Int)->OQ (x i)=0)
def PtP(n:Int)(x:Nat->RQ):Prop:=∀i,i<8->A8Z n x i
theorem A3q(k:Cor)(x:Nat->RQ)(E:FG QZ x):Abs prog 176 [AP (Ef k),AP (MR x)] (eB (decide (PtP k.n x))):=by
 obtain⟨n,e,f⟩:=k;refine Ab func176 λy=>?_;rw[ntmps176];refine Go ?_;refine AC (λw C=>∃k,k<=8/\w=8-k/\(∀j,j<k->A8Z n x j)/\C=⟨[(2,.ptr 0 0),(7,.d (AP (MR x))),(8,.d (eN k))],[.var 139 ((Ef ⟨n,e,f⟩).map .d)]⟩) ?le ⟨0,by omega,rfl,λj X=>absurd X (Ybj j),rfl⟩ ?round
 case le=>exact Ac Zcf ZcB
 case round=>
  rintro w _ ⟨k,B,rfl,H,rfl⟩;by_cases O:k<8
  .have W:=Hx (x k) (E k O)
   have T:A8Z n x k->∀j,j<k+1->A8Z n x j:=λh j X=>Zbk
   by_cases q:QV (x k)
   .rw [Yal q]at W
    by_cases F:(k:Int)<n
    .have g:=T ⟨q, λh=>absurd h ZbC⟩
     refine ZfJ ?_;refine Go ?_;exact Zis
    .have K:=Pg (x k) q
     by_cases A:OQ (x k)=0
     .rw [DL.2 A]at K
      have g:=T ⟨q,λ_=>A⟩;refine ZfJ ?_;refine Go ?_;exact Zis
     .have a:(OQ (x k)).num.sign≠0:=λe=>A (DL.1 e)
      rw[Yad λh:PtP n x=>A ((h k O).2 ZbC)];exact ZiH
   .rw [Yad q]at W
    rw[Yad λh:PtP n x=>q (h k O).1];exact ZiH
  .obtain rfl:k=8:=by omega
   rw[Yal (show PtP n x from H)];exact Zfz
theorem CellAt.up8{f:Nat->List RQ}(h:n<8):CellAt ((up8 f).drop (n*1)) 0 (Hn (f n)):=by
 rcases lt8 h with rfl | rfl | rfl | rfl | rfl | rfl | rfl | rfl<;>exact⟨Ych _,rfl⟩
def A6P(n:Int)(r:Rsl)(i:Nat):Prop:=-1000000<=r.l i/\r.l i<=1000000/\(n<=(i:Int)->r.l i=0/\(r.r i).length=0)
def WW(n:Int)(r:Rsl):Prop:=ShP r.q/\(∀i,i<8->ShP (r.r i))/\∀i,i<8->A6P n r i
structure RZ(r:Rsl):Prop where
 l:FG IW r.l
 q:LZ QZ r.q
 r:FG (LZ QZ) r.r
theorem Aan{x:e}(h:x∈[xk 0,xk 1,xk 2,xk 3,xk 4,xk 5,xk 6,xk 7]):∃i,i<8/\x=xk i:=by
 simp only[YaL,YdW,or_false]at h;rcases h with h | h | h | h | h | h | h | h
 .exact ⟨0,by omega,h⟩
 .exact ⟨1,by omega,h⟩
 .exact ⟨2,by omega,h⟩
 .exact ⟨3,by omega,h⟩
 .exact ⟨4,by omega,h⟩
 .exact ⟨5,by omega,h⟩
 .exact ⟨6,by omega,h⟩
 .exact ⟨7,by omega,h⟩
theorem A9t(h:n<8):xk n∈[xk 0,xk 1,xk 2,xk 3,xk 4,xk 5,xk 6,xk 7]:=by
 match n,h with
 |0,_ |1,_ |2,_ |3,_ |4,_ |5,_ |6,_ |7,_=>simp
theorem TS(k:Cor)(r:Rsl)(F:RZ r):Abs prog 171 [AP (Ef k),AP (RY r)] (eB (decide (WW k.n r))):=by
 obtain⟨n,e,f⟩:=k;have W:=Qo r.q 111 F.q;by_cases q:ShP r.q
 .rw [Yal q]at W
  have K:=A9D (P:=ShP) (F:=ex (.func (.func 252) #[] #[])) 41 [r.r 0,r.r 1,r.r 2,r.r 3,r.r 4,r.r 5,r.r 6,r.r 7] (λx C=>by
   obtain⟨i,J,rfl⟩:=Aan C;exact FnAbs.ex (Qo (r.r i) 111 (F.r i J))) ZbR
  by_cases A:∀l∈[r.r 0,r.r 1,r.r 2,r.r 3,r.r 4,r.r 5,r.r 6,r.r 7],ShP l
  .rw [Yal A]at K
   have R:∀i,i<8->ShP (r.r i):=λi J=>A _ (A9t J);refine Ab func171 λy=>?_;rw[ntmps171];apply Y1;refine Bx ?_;refine Bx ?_;refine Wa<|Y0 ?_;refine CM 1 3 rfl rfl rfl ?_;refine Ah<|Y1 ?_;refine Wq AE ?_;refine Wq AT ?_;refine Wq (AJ (W)) ?_;refine Wq GD ?_;refine Wm ?_;refine Wg AE ?_;refine Wg (A1B (ao rfl) (Aa rfl) (Aa rfl) rfl ZbC) ?_;refine Wg (AJ (K)) ?_;refine Wg GD ?_;refine Wq BT ?_;refine Y0<|Cf<|Ys<|Ah<|Y1 ?_;refine Wq AE ?_;refine Wq Fg ?_;refine Wm<|Y0<|AWp.block ?_
   refine AC (λw E=>∃k,k<=8/\w=8-k/\(∀j,j<k->A6P n r j)/\E=⟨[(2,.ptr 0 0),(3,.d (Fk 41 (RY r))),(18,.d (AP (CN r.l))),(19,.d (eN k))],[.var 139 ((Ef ⟨n,e,f⟩).map .d)]⟩) ?le ⟨0,by omega,rfl,λj X=>absurd X (Ybj j),rfl⟩ ?round
   case le=>exact Ac Zde ZcB
   case round=>
    rintro w _ ⟨k,B,rfl,H,rfl⟩;by_cases O:k<8
    .have T:A6P n r k->∀j,j<k+1->A6P n r j:=λh j X=>Zbk
     have d:¬A6P n r k->¬WW n r:=λh b=>h (b.2.2 k O);by_cases G:-1000000<=r.l k
     .by_cases L:r.l k<=1000000
      .by_cases o:(k:Int)<n
       .have g:=T ⟨G, L, λh=>absurd h ZbC⟩
        apply Y1;refine Wq Bc ?_;refine Y0<|Ah<|Ct<|Ys<|Ah<|AWp.block<|Y1<|Wm ?_;refine Wq (Gw (ao rfl) (ao rfl) (Aa rfl) (Aa rfl) rfl O (CellAt.mon O)) ?_;refine Wa<|Wa<|Y0<|Y1<|Wm ?_;refine Wq AL ?_;refine Wm ?_;refine Wg AQ ?_;refine Wg AL ?_;refine Wq BT ?_;refine Wm ?_;refine Wg AQ ?_;refine Wg AB ?_;refine Wg AB ?_;refine Wg As ?_;refine Wg AL ?_;refine Wg AQ ?_;refine Ws ?_;refine Ws ?_;refine Ws ?_;refine Ws ?_;refine Ws ?_;refine Ws ?_;refine Ws ?_;refine Ws ?_;refine Ws ?_;refine Ws ?_;refine Wg BT ?_;refine Wq BT ?_;refine Y0<|Cf<|Hl<|Bg<|Yn<|AWp.region ?_;refine Wq CL ?_;refine Wm<|AWl.nil ?_
        exact Zit
       .by_cases Y:r.l k=0
        .by_cases N:(r.r k).length=0
         .have g:=T ⟨G,L,λ_=>⟨Y,N⟩⟩
          apply Y1;refine Wq Bc ?_;refine Y0<|Ah<|Ct<|Ys<|Ah<|AWp.block<|Y1<|Wm ?_;refine Wq (Gw (ao rfl) (ao rfl) (Aa rfl) (Aa rfl) rfl O (CellAt.mon O)) ?_;refine Wa<|Wa<|Y0<|Y1<|Wm ?_;refine Wq AL ?_;refine Wm ?_;refine Wg AQ ?_;refine Wg AL ?_;refine Wq BT ?_;refine Wm ?_;refine Wg AQ ?_;refine Wg AB ?_;refine Wg AB ?_;refine Wg As ?_;refine Wg Bc ?_;refine Wg AQ ?_;refine Wg AQ ?_;refine Wg AL ?_;refine Wg AQ ?_;refine Wg AQ ?_;refine Wg AE ?_;refine Wg A1p ?_;refine Wg (Ie (ao rfl) (Aa rfl) rfl (CellAt.up8 O)) ?_;refine Wg BH ?_;refine Wg AL ?_;refine Wg BT ?_;refine Wg Cw ?_;refine Wq BT ?_;refine Y0<|Cf<|Hl<|Bg<|Yn<|AWp.region ?_;refine Wq CL ?_;refine Wm<|AWl.nil ?_
          exact Zit
         .rw [Yad (d λh=>N (h.2.2 ZbC).2)]
          apply Y1;refine Wq Bc ?_;refine Y0<|Ah<|Ct<|Ys<|Ah<|AWp.block<|Y1<|Wm ?_;refine Wq (Gw (ao rfl) (ao rfl) (Aa rfl) (Aa rfl) rfl O (CellAt.mon O)) ?_;refine Wa<|Wa<|Y0<|Y1<|Wm ?_;refine Wq AL ?_;refine Wm ?_;refine Wg AQ ?_;refine Wg AL ?_;refine Wq BT ?_;refine Wm ?_;refine Wg AQ ?_;refine Wg AB ?_;refine Wg AB ?_;refine Wg As ?_;refine Wg Bc ?_;refine Wg AQ ?_;refine Wg AQ ?_;refine Wg AL ?_;refine Wg AQ ?_;refine Wg AQ ?_;refine Wg AE ?_;refine Wg A1p ?_;refine Wg (Ie (ao rfl) (Aa rfl) rfl (CellAt.up8 O)) ?_;refine Wg BH ?_;refine Wg Bc ?_;refine Wg BT ?_;refine Wg Cw ?_;refine Wq BT ?_;refine Y0<|Ct<|Y1<|Wa<|Y0<|BR<|DX<|Dv<|IJ<|DX<|Dv ?_
          exact Yf
        .rw [Yad (d λh=>Y (h.2.2 ZbC).1)]
         apply Y1;refine Wq Bc ?_;refine Y0<|Ah<|Ct<|Ys<|Ah<|AWp.block<|Y1<|Wm ?_;refine Wq (Gw (ao rfl) (ao rfl) (Aa rfl) (Aa rfl) rfl O (CellAt.mon O)) ?_;refine Wa<|Wa<|Y0<|Y1<|Wm ?_;refine Wq AL ?_;refine Wm ?_;refine Wg AQ ?_;refine Wg AL ?_;refine Wq BT ?_;refine Wm ?_;refine Wg AQ ?_;refine Wg AB ?_;refine Wg AB ?_;refine Wg As ?_;refine Wg Bc ?_;refine Wg AQ ?_;refine Wg AQ ?_;refine Wg Bc ?_;refine Wg AQ ?_;refine Ws ?_;refine Ws ?_;refine Ws ?_;refine Ws ?_;refine Ws ?_;refine Ws ?_;refine Wg Cw ?_;refine Wg Cw ?_;refine Wq BT ?_;refine Y0<|Ct<|Y1<|Wa<|Y0<|BR<|DX<|Dv<|IJ<|DX<|Dv ?_
         exact Yf
      .rw [Yad (d λh=>L h.2.1)]
       apply Y1;refine Wq Bc ?_;refine Y0<|Ah<|Ct<|Ys<|Ah<|AWp.block<|Y1<|Wm ?_;refine Wq (Gw (ao rfl) (ao rfl) (Aa rfl) (Aa rfl) rfl O (CellAt.mon O)) ?_;refine Wa<|Wa<|Y0<|Y1<|Wm ?_;refine Wq AL ?_;refine Wm ?_;refine Wg AQ ?_;refine Wg Bc ?_;refine Wq BT ?_;refine Wm ?_;refine Ws ?_;refine Ws ?_;refine Ws ?_;refine Ws ?_;refine Ws ?_;refine Ws ?_;refine Ws ?_;refine Ws ?_;refine Ws ?_;refine Ws ?_;refine Ws ?_;refine Ws ?_;refine Ws ?_;refine Ws ?_;refine Ws ?_;refine Ws ?_;refine Ws ?_;refine Wq Cw ?_;refine Y0<|Ct<|Y1<|Wa<|Y0<|BR<|DX<|Dv<|IJ<|DX<|Dv ?_
       exact Yf
     .rw [Yad (d λh=>G h.1)]
      apply Y1;refine Wq Bc ?_;refine Y0<|Ah<|Ct<|Ys<|Ah<|AWp.block<|Y1<|Wm ?_;refine Wq (Gw (ao rfl) (ao rfl) (Aa rfl) (Aa rfl) rfl O (CellAt.mon O)) ?_;refine Wa<|Wa<|Y0<|Y1<|Wm ?_;refine Wq Bc ?_;refine Wm ?_;refine Ws ?_;refine Ws ?_;refine Wq Cw ?_;refine Wm ?_;refine Ws ?_;refine Ws ?_;refine Ws ?_;refine Ws ?_;refine Ws ?_;refine Ws ?_;refine Ws ?_;refine Ws ?_;refine Ws ?_;refine Ws ?_;refine Ws ?_;refine Ws ?_;refine Ws ?_;refine Ws ?_;refine Ws ?_;refine Ws ?_;refine Ws ?_;refine Wq Cw ?_;refine Y0<|Ct<|Y1<|Wa<|Y0<|BR<|DX<|Dv<|IJ<|DX<|Dv ?_
      exact Yf
    .obtain rfl:k=8:=by omega
     rw[Yal (show WW n r from⟨q,R,H⟩)];exact Zfz
  .rw [Yad A]at K
   rw[Yad λh:WW n r=>A λl I=>by obtain⟨i,J,rfl⟩:=Aan I;exact h.2.1 i J];refine Ab func171 λy=>?_;rw[ntmps171];apply Y1;refine Bx ?_;refine Bx ?_;refine Wa<|Y0 ?_;refine CM 1 3 rfl rfl rfl ?_;refine Ah<|Y1 ?_;refine Wq AE ?_;refine Wq AT ?_;refine Wq (AJ (W)) ?_;refine Wq GD ?_;refine Wm ?_;refine Wg AE ?_;refine Wg (A1B (ao rfl) (Aa rfl) (Aa rfl) rfl ZbC) ?_;refine Wg (AJ (K)) ?_;refine Wg GD ?_;refine Wq BT ?_;refine Y0<|Ct<|Y1<|Wa<|Y0<|BR<|Dv ?_
   exact Yf
 .rw [Yad q]at W
  rw[Yad λh:WW n r=>q h.1];refine Ab func171 λy=>?_;rw[ntmps171];exact Zfz
def Gn(c:Clm):Bool:=c.kind==0&&c.n==0&&c.d==0&&c.r==0&&((c.p.length:Nat):Int)==0&&((c.o.length:Nat):Int)==0&&((c.l.length:Nat):Int)==0&&((c.s.length:Nat):Int)==0&&((c.b.length:Nat):Int)==0
theorem Vf(c:Clm):Abs prog 161 [AP (EM c)] (eB (Gn c)):=by
 refine Ab func161 λy=>?_;rw[ntmps161];apply Y1;refine Bx ?_;refine Wa<|Y0 ?_;refine CM 0 1 rfl rfl rfl ?_;apply Y1;refine Wq AE ?_;refine Wq AT ?_;refine Wq Ci ?_;refine Wm ?_;refine EJ (λT=>AE) ?_;refine CG 7 rfl (λT=>AT) ?_;refine CG 8 rfl (λT=>Ci) ?_;refine Wq CR ?_;refine Wm ?_;refine EJ (λT=>AE) ?_;refine CG 12 rfl (λT=>AT) ?_;refine CG 13 rfl (λT=>Ci) ?_;refine Wq CR ?_;refine Wm ?_;refine EJ (λT=>AE) ?_;refine CG 17 rfl (λT=>AT) ?_;refine CG 18 rfl (λT=>Ci) ?_;refine Wq CR ?_;refine Wm ?_;refine EJ (λT=>AE) ?_;refine CG 22 rfl (λT=>AT) ?_;refine CG 23 rfl (λT=>BH) ?_;refine CG 24 rfl (λT=>Ci) ?_;refine Wq CR ?_;refine Wm ?_;refine EJ (λT=>AE) ?_;refine CG 28 rfl (λT=>AT) ?_;refine CG 29 rfl (λT=>BH) ?_;refine CG 30 rfl (λT=>Ci) ?_;refine Wq CR ?_;refine Wm ?_;refine EJ (λT=>AE) ?_;refine CG 34 rfl (λT=>AT) ?_;refine CG 35 rfl (λT=>BH) ?_;refine CG 36 rfl (λT=>Ci) ?_;refine Wq CR ?_;refine Wm ?_;refine EJ (λT=>AE) ?_;refine CG 40 rfl (λT=>AT) ?_;refine CG 41 rfl (λT=>BH) ?_;refine CG 42 rfl (λT=>Ci) ?_;refine Wq CR ?_;refine Wm ?_;refine EJ (λT=>AE) ?_;refine CG 46 rfl (λT=>AT) ?_;refine CG 47 rfl (λT=>BH) ?_;refine CG 48 rfl (λT=>Ci) ?_;refine Wq CR ?_;refine Wa<|Y0<|BR ?_
 exact Yf
structure ClZ(c:Clm):Prop where
 kind:IW c.kind
 p:PZ c.p
 n:IW c.n
 d:IW c.d
 r:IW c.r
 o:LZ (FG IW) c.o
 l:LZ PZ c.l
 s:LZ IW c.s
 b:LZ (FG VZ) c.b
def Df(k:Cor)(c:Clm):Prop:=
 if c.kind=1\/c.kind=2\/c.kind=10 then Vu k.n 12 c.p/\(c.n=0/\c.d=0/\c.r=0)/\c.o=[]/\c.l=[]/\c.s=[]/\c.b=[]
 else if c.kind=3\/c.kind=9 then(c.n=0/\c.d=0/\c.r=0)/\c.p=[]/\c.o=[]/\c.l=[]/\c.s=[]/\c.b=[]
 else if c.kind=4 then(OValid c.o/\JA k.n c.l)/\(c.n=0/\c.d=0/\c.r=0)/\c.p=[]/\c.s=[]/\c.b=[]
 else if c.kind=5 then(-1<=c.d/\c.d<=k.n/\SmI c.n)/\c.r=0/\c.p=[]/\c.o=[]/\c.l=[]/\c.s=[]/\c.b=[]
 else if c.kind=6 then(0<=c.r/\c.r<=c.d/\c.d<=c.n/\SmI c.n)/\c.p=[]/\c.o=[]/\c.l=[]/\c.s=[]/\c.b=[]
 else if c.kind=7 then TA k.n c.b/\(c.n=0/\c.d=0/\c.r=0)/\c.p=[]/\c.o=[]/\c.l=[]/\c.s=[]
 else if c.kind=8 then(Vu k.n 12 c.p/\TA k.n c.b/\c.s.length=c.b.length/\∀z∈c.s,SgP z)/\(c.n=0/\c.d=0/\c.r=0)/\c.o=[]/\c.l=[]
 else if c.kind=11 then JA k.n c.l/\(c.n=0/\c.d=0/\c.r=0)/\c.p=[]/\c.o=[]/\c.s=[]/\c.b=[]
 else if c.kind=12\/c.kind=13 then SmI c.n/\(c.d=0/\c.r=0)/\c.p=[]/\c.o=[]/\c.l=[]/\c.s=[]/\c.b=[]
 else False
def PK(k:Cor)(c:Clm):Prop:=ON k/\Df k c
theorem Si(R:List (Nat->Int)):Abs prog 155 [Er R] (eB (decide (OValid R))):=by
 refine BI (Ag func155 ZbG ZbG) λs J C I r=>?_;rw[vs1 I];exact(A0I (J.getD 0 undef) R s.w (A3s (r 0 ZbR))).mono λe N ⟨b,Z⟩=>⟨_,b,Z,λj c n _ _=>rfl⟩
theorem A3j(k:Cor)(c:Clm)(F:CZ k)(G:ClZ c):Abs prog 79 [AP (Ef k++EM c)] (eB (decide (PK k c))):=by
 have W:=OX k F;by_cases I:ON k
 .rw [Yal I]at W
  have C:NV k:=⟨I.1,I.2.1⟩;have j:=WR k C c.p 12 G.p;have t:=Si c.o;have m:=Sz k C c.l G.l;have a:=YP c.n;have f:=Ve k c.b G.b;have e:=Acw (P:=SgP) (F:=ex (.func (.func 160) #[] #[])) 3 c.s (λx _=>FnAbs.ex (A0T x)) G.s.n;have L:PK k c↔Df k c:=⟨λh=>h.2,λh=>⟨I,h⟩⟩;rw[show decide (PK k c)=decide (Df k c)from YcO.2 L];obtain⟨kind,p,n,d,r,o,l,s,b⟩:=c;refine Ab func79 λy=>?_;rw[ntmps79];apply Y1;refine Bx ?_;refine Wa<|Y0 ?_;refine CM 0 1 rfl rfl rfl ?_;refine Ah<|Y1 ?_;refine Wq AE ?_;refine Wq Fg ?_;refine Wq (AJ (W)) ?_;refine Wq GD ?_;refine Y0<|Cf<|Ys<|Y1 ?_;refine Wq AE ?_;refine Wq Ca ?_;refine Al ?_;refine Sf ?_;apply Y0;refine CM 1 3 rfl rfl rfl ?_;apply Y1;refine Wq Ca ?_;refine Al ?_;refine Sf ?_;refine Y0<|Y1 ?_;refine Wq AB ?_;refine Dg (ao rfl) (ao rfl) rfl (Aa rfl) ZbS rfl rfl ?_;refine Y0<|Y1<|Wa<|Y0<|Ah<|Y1 ?_;refine Wq AE ?_;refine Wq AT ?_;apply Y0;refine ZZ 0 (λi:Bool×Clm=>⟨[(4,.ptr 2 0),(5,.d (eB i.1))],[.dead,.dead,.var 34 ((EM i.2).map .d)]⟩) (λi=>decide (Df k ⟨kind,p,n,d,r,o,l,s,b⟩)=(i.1&&Gn i.2)) ?_ ?_;refine AWp.block<|Ah<|Y1 ?_;refine Wq Ci ?_;refine Wa<|Y0 ?_
  .refine CT (σ':=⟨[(5,.d (eB true)),(1,.d (Fk 143 (Ef k++EM ⟨kind,p,n,d,r,o,l,s,b⟩))),(3,.d (Fk 34 (EM ⟨kind,p,n,d,r,o,l,s,b⟩))),(4,.ptr 2 0),(15,.d (eI kind)),(16,.d (eB (kind==1)))],[.dead,.dead,.var 34 ((EM ⟨0,p,n,d,r,o,l,s,b⟩).map .d)]⟩) ?wk ?_
   case wk=>exact Ac Zfg Zen
   by_cases q:kind=1
   .subst q
    refine Go ?_;exact Zgx
   by_cases A:kind=2
   .subst A
    refine Go ?_;exact Zgx
   by_cases X:kind=10
   .subst X
    refine Go ?_;exact Zgx
   by_cases K:kind=3
   .subst K
    refine Go ?_;exact Zin
   by_cases S:kind=9
   .subst S
    refine Go ?_;exact Zin
   by_cases Q:kind=4
   .subst Q
    refine ZfM ?_;refine CG 35 rfl (λT=>Fg) ?_;refine EJ (λT=>AE) ?_;refine CG 37 rfl (λT=>AT) ?_;refine Zu 36 rfl 38 rfl (λT=>AJ (m)) ?_;refine Go ?_;refine CutS.normal (decide (OValid o)&&decide (JA k.n l),⟨0,p,n,d,r,[],[],s,b⟩) Zck ?_;exact ZkG
   by_cases E:kind=5
   .subst E
    refine ZfM ?_;refine CG 49 rfl (λT=>AT) ?_;refine EJ (λT=>AE) ?_;refine CG 51 rfl (λT=>AE) ?_;refine CG 52 rfl (λT=>AE) ?_;refine CG 53 rfl (λT=>AT) ?_;refine Zu 50 rfl 54 rfl (λT=>Ci) ?_;refine ZfM ?_;refine CG 58 rfl (λT=>AT) ?_;refine CG 59 rfl (λT=>AJ (a)) ?_;refine Go ?_;refine CutS.normal (decide (d ≥ -1)&&decide (d<=k.n)&&decide (SmI n),⟨0,p,0,0,r,o,l,s,b⟩) Zck ?_;exact ZkG
   by_cases J:kind=6
   .subst J
    refine ZfM ?_;refine CG 70 rfl (λT=>AT) ?_;refine EJ (λT=>AE) ?_;refine CG 72 rfl (λT=>AT) ?_;refine Zu 71 rfl 73 rfl (λT=>Ci) ?_;refine ZfM ?_;refine CG 77 rfl (λT=>AT) ?_;refine EJ (λT=>AE) ?_;refine CG 79 rfl (λT=>AT) ?_;refine Zu 78 rfl 80 rfl (λT=>Ci) ?_;refine ZfM ?_;refine CG 84 rfl (λT=>AT) ?_;refine CG 85 rfl (λT=>AJ (a)) ?_;refine Go ?_;refine CutS.normal (decide (0<=r)&&decide (r<=d)&&decide (d<=n)&&decide (SmI n),⟨0,p,0,0,0,o,l,s,b⟩) Zck ?_;exact ZkG
   by_cases g:kind=7
   .subst g
    refine Go ?_;refine CutS.normal (decide (TA k.n b),⟨0,p,n,d,r,o,l,s,[]⟩) Zck ?_;exact ZkG
   by_cases N:kind=8
   .subst N
    refine ZfM ?_;refine CG 107 rfl (λT=>Fg) ?_;refine EJ (λT=>AE) ?_;refine CG 109 rfl (λT=>AT) ?_;refine Zu 108 rfl 110 rfl (λT=>AJ (f)) ?_;refine ZfM ?_;refine CG 114 rfl (λT=>AT) ?_;refine CG 115 rfl (λT=>BH) ?_;refine EJ (λT=>AE) ?_;refine CG 117 rfl (λT=>AT) ?_;refine CG 118 rfl (λT=>BH) ?_;refine Zu 116 rfl 119 rfl (λT=>Ci) ?_;refine ZfM ?_;refine CG 123 rfl (λT=>AT) ?_;refine CG 124 rfl (λT=>AJ (e)) ?_;refine Go ?_;refine CutS.normal (decide (Vu k.n 12 p)&&decide (TA k.n b)&&(((s.length:Nat):Int)==((b.length:Nat):Int))&&decide (∀x∈s,SgP x),⟨0,[],n,d,r,o,l,[],[]⟩) (by rw[YcW];simp[Df,Gn,and_assoc];intros;omega) ?_;exact ZkG
   by_cases v:kind=11
   .subst v
    refine Go ?_;refine CutS.normal (decide (JA k.n l),⟨0,p,n,d,r,o,[],s,b⟩) Zck ?_;exact ZkG
   by_cases O:kind=12
   .subst O
    refine Go ?_;exact ZhM
   by_cases Y:kind=13
   .subst Y
    refine Go ?_;exact ZhM
   have Z:¬Df k ⟨kind,p,n,d,r,o,l,s,b⟩:=λh=>by simp[Df,q,A,X,K,S,Q,E,J,g,N,v,O,Y]at h
   rw[Yad Z];refine Go ?_;refine CutS.ret ?_;exact Yf
  .rintro ⟨B,M⟩ V
   refine Go ?_;refine EJ (λT=>AF) ?_;refine CG 147 rfl (λT=>AJ (Vf M)) ?_;refine Go ?_;exact AA (Am (ResV.tmp rfl rfl) (Ae (by rw[V])))
 .rw [Yad I]at W
  rw[Yad λh:PK k c=>I h.1];refine Ab func79 λy=>?_;rw[ntmps79];exact Zfz
structure CrZ(e:Crt):Prop where
 n:IW e.n
 cof:LZ PZ e.cof
 g:LZ PZ e.g
 o:LZ (FG IW) e.o
 c:LZ (LZ PZ) e.c
 q:LZ (LZ PZ) e.q
 s:LZ (LZ PZ) e.s
 r:RZ e.r
 a:LZ VZ e.a
 sq:LZ SZ e.sq
 x:LZ (FG QZ) e.x
 b:LZ (FG VZ) e.b
def NoU(l:List RQ):Prop:=l.length=0
def NoR(r:Rsl):Prop:=∀i,i<8->NoU (r.r i)
def NoL(r:Rsl):Prop:=∀i,i<8->r.l i=0
theorem UY(l:List RQ):Abs prog 257 [Hn l] (eB (decide (NoU l))):=by
 refine Ab func257 λy=>?_;rw[ntmps257];refine Go ?_;exact AA (Am (ResV.tmp rfl rfl) (Ae (congrArg (λb=>eB b) (by rw[YcW];simp[NoU]))))
def no8:Nat->Int:=λ_=>0
noncomputable def FN (e:Crt):Bool:=e.n==0&&((e.cof.length:Nat):Int)==0&&((e.g.length:Nat):Int)==0&&((e.o.length:Nat):Int)==0&&((e.c.length:Nat):Int)==0&&((e.q.length:Nat):Int)==0&&((e.s.length:Nat):Int)==0&&OS e.r.l no8&&decide (NoU e.r.q)&&decide (NoR e.r)&&((e.a.length:Nat):Int)==0&&((e.sq.length:Nat):Int)==0&&((e.x.length:Nat):Int)==0&&((e.b.length:Nat):Int)==0
theorem Tb(e:Crt):Abs prog 177 [AP (DI e)] (eB (FN e)):=by
 have W:=UY e.r.q;have K:=A9D (P:=NoU) (F:=ex (.func (.func 257) #[] #[])) 46 [e.r.r 0,e.r.r 1,e.r.r 2,e.r.r 3,e.r.r 4,e.r.r 5,e.r.r 6,e.r.r 7] (λx _=>FnAbs.ex (UY x)) ZbR;have F:=K.le (r':=eB (decide (NoR e.r))) (Ae (congrArg (λb=>eB b) (YcO.2 ⟨λh i J=>h _ (A9t J),λh x C=>by obtain⟨i,J,rfl⟩:=Aan C;exact h i J⟩)));refine Ab func177 λy=>?_;rw[ntmps177];apply Y1;refine Bx ?_;refine Wa<|Y0 ?_;refine CM 0 1 rfl rfl rfl ?_;refine Y1<|Wa<|Y0<|Y1 ?_;refine Wq AE ?_;refine Wq AT ?_;refine Wq Ci ?_;refine Wm ?_;refine EJ (λT=>AE) ?_;refine CG 8 rfl (λT=>AT) ?_;refine CG 9 rfl (λT=>BH) ?_;refine CG 10 rfl (λT=>Ci) ?_;refine Wq CR ?_;refine Wm ?_;refine EJ (λT=>AE) ?_;refine CG 14 rfl (λT=>AT) ?_;refine CG 15 rfl (λT=>BH) ?_;refine CG 16 rfl (λT=>Ci) ?_;refine Wq CR ?_;refine Wm ?_;refine EJ (λT=>AE) ?_;refine CG 20 rfl (λT=>AT) ?_;refine CG 21 rfl (λT=>BH) ?_;refine CG 22 rfl (λT=>Ci) ?_;refine Wq CR ?_;refine Wm ?_;refine EJ (λT=>AE) ?_;refine CG 26 rfl (λT=>AT) ?_;refine CG 27 rfl (λT=>BH) ?_;refine CG 28 rfl (λT=>Ci) ?_;refine Wq CR ?_;refine Wm ?_;refine EJ (λT=>AE) ?_;refine CG 32 rfl (λT=>AT) ?_;refine CG 33 rfl (λT=>BH) ?_;refine CG 34 rfl (λT=>Ci) ?_;refine Wq CR ?_;refine Wm ?_;refine EJ (λT=>AE) ?_;refine CG 38 rfl (λT=>AT) ?_;refine CG 39 rfl (λT=>BH) ?_;refine CG 40 rfl (λT=>Ci) ?_;refine Wq CR ?_;refine Wm ?_;refine EJ (λT=>AE) ?_;refine CG 44 rfl (λT=>AE) ?_;refine CG 45 rfl (λT=>Fg) ?_;refine EJ (λT=>Ao (by refine Mh (Aa rfl) (Aa rfl) rfl rfl ?_;refine⟨_,rfl,?_⟩;rfl)) ?_;refine Zu 46 rfl 47 rfl (λT=>A79 (a:=e.r.l) (b:=no8) (ao rfl) (ao rfl)) ?_;refine Wq CR ?_;refine Wm ?_;refine EJ (λT=>AQ) ?_;refine EJ (λT=>AE) ?_;refine CG 52 rfl (λT=>AE) ?_;refine CG 53 rfl (λT=>AT) ?_;refine Zu 51 rfl 54 rfl (λT=>Dm (ao rfl) (FnAbs.ex W) Zcq) ?_;refine Wq CR ?_;refine Wm ?_;refine EJ (λT=>AE) ?_;refine CG 58 rfl (λT=>AE) ?_;refine CG 59 rfl (λT=>A1B (ao rfl) (Aa rfl) (Aa rfl) rfl ZbC) ?_;refine EJ (λT=>AQ) ?_;refine Zu 60 rfl 61 rfl (λT=>AJ (F)) ?_;refine Wq CR ?_;refine Wm ?_;refine EJ (λT=>AE) ?_;refine CG 65 rfl (λT=>AT) ?_;refine CG 66 rfl (λT=>BH) ?_;refine CG 67 rfl (λT=>Ci) ?_;refine Wq CR ?_;refine Wm ?_;refine EJ (λT=>AE) ?_;refine CG 71 rfl (λT=>AT) ?_;refine CG 72 rfl (λT=>BH) ?_;refine CG 73 rfl (λT=>Ci) ?_;refine Wq CR ?_;refine Wm ?_;refine EJ (λT=>AE) ?_;refine CG 77 rfl (λT=>AT) ?_;refine CG 78 rfl (λT=>BH) ?_;refine CG 79 rfl (λT=>Ci) ?_;refine Wq CR ?_;refine Wm ?_;refine EJ (λT=>AE) ?_;refine CG 83 rfl (λT=>AT) ?_;refine CG 84 rfl (λT=>BH) ?_;refine CG 85 rfl (λT=>Ci) ?_;refine Wq CR ?_;refine Wa<|Y0<|BR ?_
 exact Yf
noncomputable def EI (k:Cor) (e:Crt):Bool:=decide (JA k.n e.g)&&decide (OValid e.o)&&decide (JK k.n (e.g.length:Nat) (k.e.length:Nat) e.c)&&decide (JK k.n (k.e.length:Nat) (e.g.length:Nat) e.q)&&decide (JK k.n (((e.g.length:Nat):Int)*(((e.g.length:Nat):Int)-1)/2) (e.g.length:Nat) e.s)
noncomputable def Kl (k:Cor) (e:Crt):Bool:=(((e.cof.length:Nat):Int)==((k.e.length:Nat):Int))&&decide (Nf k.n e.cof)
theorem A2O(k:Cor)(c:Clm)(e:Crt)(B:NV k)(b:CrZ e):Abs prog 166 [AP (DG ⟨k,c,e⟩)] (eB (Kl k e)):=by
 have W:=SH k B e.cof b.cof;refine Ab func166 λy=>?_;rw[ntmps166];apply Y1;refine Bx ?_;refine Wa<|Y0 ?_;refine CM 0 1 rfl rfl rfl ?_;apply Y1;refine Wq AE ?_;refine Wq AE ?_;refine Wq AT ?_;refine Wq BH ?_;refine Wq AE ?_;refine Wq AE ?_;refine Wq AE ?_;refine Wq AE ?_;refine Wq AT ?_;refine Wq BH ?_;refine Wq Ci ?_;refine Wm ?_;refine EJ (λT=>AE) ?_;refine CG 15 rfl (λT=>AE) ?_;refine CG 16 rfl (λT=>Fg) ?_;refine EJ (λT=>AE) ?_;refine CG 18 rfl (λT=>AE) ?_;refine CG 19 rfl (λT=>AT) ?_;refine Zu 17 rfl 20 rfl (λT=>AJ (W)) ?_;refine Wq CR ?_;refine Wa<|Y0<|BR ?_
 exact Yf
theorem A3X(k:Cor)(c:Clm)(e:Crt)(B:NV k)(b:CrZ e):Abs prog 167 [AP (DG ⟨k,c,e⟩)] (eB (EI k e)):=by
 have R:=b.g.n;obtain⟨N,V⟩:∃N:Int,N=((e.g.length:Nat):Int):=⟨_,rfl⟩;have G:0<=N/\N<=40000:=by omega
 have A:0<=N*(N-1):=by
  rcases Int.lt_or_le 0 N with h | h
  .exact Yct ZbC ZbC
  .rw [show N=0 by omega];decide
 have C:N*(N-1)<=40000*40000:=Yet (YdZ (show N-1<=40000 by omega) G.1) (YdS G.2 ZbH);obtain⟨M,a⟩:∃M:Int,M=N*(N-1):=⟨_,rfl⟩;rw[<-a]at A C;have X:IntKind.i64.wrap (((e.g.length:Nat):Int)*(((e.g.length:Nat):Int)-1))=M:=by rw[<-V,<-a,IntKind.wrap_i64];omega
 have E:IntKind.i64.wrap (M.tdiv 2)=M/2:=by rw[YbY A,IntKind.wrap_i64];omega
 have W:=Sz k B e.g b.g;have K:=Si e.o;have F:=JP k B (e.g.length:Nat) (k.e.length:Nat) e.c b.c;have q:=JP k B (k.e.length:Nat) (e.g.length:Nat) e.q b.q;have g:=JP k B (M/2) (e.g.length:Nat) e.s b.s;have Z:EI k e=(decide (JA k.n e.g)&&decide (OValid e.o)&&decide (JK k.n (e.g.length:Nat) (k.e.length:Nat) e.c)&&decide (JK k.n (k.e.length:Nat) (e.g.length:Nat) e.q)&&decide (JK k.n (M/2) (e.g.length:Nat) e.s)):=by rw[a,V];rfl
 rw[Z];refine Ab func167 λy=>?_;rw[ntmps167];refine Go ?_;refine Gg (τ:=⟨[(1,.ptr 0 0),(3,.ptr 1 0),(4,.d (eN k.e.length)),(5,.d (eN e.g.length))],[.var 150 ((DG ⟨k,c,e⟩).map .d),.var 46 ((DI e).map .d)]⟩) ZbG [.av (.ptr 0 12),.av (.d (AP (DI e))),.av (.ptr 0 0),.av (.ptr 0 0),.av (.ptr 0 0),.av (.ptr 0 1),.av (.d (Iq k.e)),.av (.d (eN k.e.length)),.av (.ptr 0 12),.av (.ptr 0 14),.av (.d (Iq e.g)),.av (.d (eN e.g.length)),.newS 46 13 (DI e),.st 12,.av (.d (eN k.e.length)),.av (.d (eN e.g.length))] ZbG ?_ ?_ ?_
 .refine Zgk ?_;refine Zgg ?_;refine Zgt ?_;refine HYSteps.cons (.q rfl (Bh rfl (Aa rfl))) ?_;refine Zgt ?_;refine ZgA ?_;refine ZfC ?_;refine HYSteps.cons (.q rfl (Bm rfl)) ?_;exact HYSteps.nil
 .exact Ac (by exact Yp<|Yp<|Yd<|Yd<|FrLe.nil) Zcu
 apply Yn;refine CM 0 1 rfl rfl rfl ?_;refine CM 1 3 rfl rfl rfl ?_;refine ZfM ?_;refine CG 25 rfl (λT=>AT) ?_;refine CG 26 rfl (λT=>AJ (K)) ?_;refine ZfM ?_;refine CG 30 rfl (λT=>AE) ?_;refine CG 31 rfl (λT=>Fg) ?_;refine EJ (λT=>AE) ?_;refine CG 33 rfl (λT=>AT) ?_;refine EJ (λT=>AQ) ?_;refine EJ (λT=>AQ) ?_;refine Wu4 32 rfl 34 rfl 35 rfl 36 rfl (λT=>AJ (F)) ?_;refine ZfM ?_;refine CG 40 rfl (λT=>AE) ?_;refine CG 41 rfl (λT=>Fg) ?_;refine EJ (λT=>AE) ?_;refine CG 43 rfl (λT=>AT) ?_;refine EJ (λT=>AQ) ?_;refine EJ (λT=>AQ) ?_;refine Wu4 42 rfl 44 rfl 45 rfl 46 rfl (λT=>AJ (q)) ?_;refine ZfM ?_;refine CG 50 rfl (λT=>AE) ?_;refine CG 51 rfl (λT=>Fg) ?_;refine EJ (λT=>AE) ?_;refine CG 53 rfl (λT=>AT) ?_;refine EJ (λT=>AQ) ?_;refine EJ (λT=>AQ) ?_;refine CG 56 rfl (λT=>A1m) ?_;refine Zu 55 rfl 57 rfl (λT=>Hj (ao rfl) (ao rfl) X) ?_;refine CG 58 rfl (λT=>Ab8) ?_;refine EJ (λT=>AQ) ?_;refine Wu4 52 rfl 54 rfl 59 rfl 60 rfl (λT=>AJ (g)) ?_;exact Zfz
def woB(e:Crt):Crt:=⟨e.n,e.cof,[],[],[],[],[],e.r,e.a,e.sq,e.x,e.b⟩
theorem GF(e:Crt):Abs prog 168 [AP (DI e)] (AP (DI (woB e))):=by
 refine Ab func168 λy=>?_;rw[ntmps168];refine Go ?_;exact AA (Am (ResV.cell rfl rfl (Aa rfl) rfl rfl rfl) (Ch ZdG))
def OK(r:Rsl):Prop:=NoL r/\NoU r.q/\NoR r
def MV(k:Cor)(e:Crt):Prop:=((e.cof.length:Nat):Int)=((k.e.length:Nat):Int)/\Nf k.n e.cof
def Mi(k:Cor)(e:Crt):Prop:=JA k.n e.g/\OValid e.o/\JK k.n (e.g.length:Nat) (k.e.length:Nat) e.c/\JK k.n (k.e.length:Nat) (e.g.length:Nat) e.q/\JK k.n (((e.g.length:Nat):Int)*(((e.g.length:Nat):Int)-1)/2) (e.g.length:Nat) e.s
def DT(k:Cor)(c:Clm)(e:Crt):Prop:=
 if c.kind=1 then MV k e/\e.n=0/\e.g=[]/\e.o=[]/\e.c=[]/\e.q=[]/\e.s=[]/\OK e.r/\e.a=[]/\e.sq=[]/\e.x=[]/\e.b=[]
 else if c.kind=2\/c.kind=4\/c.kind=5\/c.kind=6 then Mi k e/\e.n=0/\e.cof=[]/\OK e.r/\e.a=[]/\e.sq=[]/\e.x=[]/\e.b=[]
 else if c.kind=3 then(1<=e.n/\e.n<=64/\MV k e)/\e.g=[]/\e.o=[]/\e.c=[]/\e.q=[]/\e.s=[]/\OK e.r/\e.a=[]/\e.sq=[]/\e.x=[]/\e.b=[]
 else if c.kind=7\/c.kind=8 then(Mi k e/\e.a.length<=64/\(∀x∈e.a,IvP x)/\WW k.n e.r)/\e.n=0/\e.cof=[]/\e.sq=[]/\e.x=[]/\e.b=[]
 else if c.kind=9\/c.kind=10 then(e.sq.length<=64/\(∀x∈e.sq,SqP k.n x)/\MV k e)/\e.n=0/\e.g=[]/\e.o=[]/\e.c=[]/\e.q=[]/\e.s=[]/\OK e.r/\e.a=[]/\e.x=[]/\e.b=[]
 else if c.kind=11 then JK k.n (1+((c.l.length:Nat):Int)*(((c.l.length:Nat):Int)+1)/2) (k.e.length:Nat) e.c/\e.n=0/\e.cof=[]/\e.g=[]/\e.o=[]/\e.q=[]/\e.s=[]/\OK e.r/\e.a=[]/\e.sq=[]/\e.x=[]/\e.b=[]
 else if c.kind=12 then(JA k.n e.g/\OValid e.o/\JK k.n (e.g.length:Nat) (k.e.length:Nat) e.c)/\e.n=0/\e.cof=[]/\e.q=[]/\e.s=[]/\OK e.r/\e.a=[]/\e.sq=[]/\e.x=[]/\e.b=[]
 else if c.kind=13 then(e.x.length<=64/\(∀x∈e.x,PtP k.n x)/\TA k.n e.b)/\e.n=0/\e.cof=[]/\e.g=[]/\e.o=[]/\e.c=[]/\e.q=[]/\e.s=[]/\OK e.r/\e.a=[]/\e.sq=[]
 else False
def QH(k:Cor)(c:Clm)(e:Crt):Prop:=PK k c/\DT k c e
theorem Eh(r:Rsl):(OS r.l no8=true/\NoU r.q/\NoR r)↔OK r:=by
 rw[IX];exact Ydt
theorem Pv(n:Nat):((n:Int)<=64)↔n<=64:=by omega
theorem Pn:OS no8 no8=true:=by decide
theorem PX:NoU []:=rfl
theorem PY:NoR ⟨no8,[],λ_=>[]⟩:=λ_ _=>rfl
theorem A8o{k:Cor}{c:Clm}(h:Df k c):1<=c.kind/\c.kind<=13:=by
 unfold Df at h
 repeat (split at h;omega)
 exact h.elim
theorem A0W(k:Cor)(c:Clm)(e:Crt)(J:CZ k)(G:ClZ c)(F:CrZ e):Abs prog 86 [AP (DG ⟨k,c,e⟩)] (eB (decide (QH k c e))):=by
 have W:=A3j k c J G;by_cases L:PK k c
 .rw [Yal L]at W
  have C:NV k:=⟨L.1.1,L.1.2.1⟩;have t:=A8o L.2;have hF:QH k c e↔DT k c e:=⟨λh=>h.2,λh=>⟨L,h⟩⟩;rw[show decide (QH k c e)=decide (DT k c e)from YcO.2 hF];clear hF L;have u:=A2O k c e C F;have cB:=A3X k c e C F;have cL:=Sz k C e.g F.g;have cO:=Si e.o;have cT:=JP k C (e.g.length:Nat) (k.e.length:Nat) e.c F.c;have cI:=Acv (P:=IvP) (F:=ex (.func (.func 170) #[] #[])) 129 e.a (λx E=>FnAbs.ex (LE x (F.a.e x E))) F.a.n;have cR:=TS k e.r F.r;have w:=Acp (P:=SqP k.n) (F:=fvD 173 [AP (Ef k)] []) 184 e.sq (λx E=>Mg (A0m k C x (F.sq.e x E))) F.sq.n;have cX:=Acr (P:=PtP k.n) (F:=fvD 176 [AP (Ef k)] []) 187 e.x (λx E=>Mg (A3q k x (F.x.e x E))) F.x.n;have cW:=Ve k e.b F.b;have R:=G.l.n;obtain⟨kind,p,n,d,r,o,l,s,b⟩:=c;have R:l.length<=40000:=R;obtain⟨M,a⟩:∃M:Int,M=((l.length:Nat):Int)*(((l.length:Nat):Int)+1):=⟨_,rfl⟩;have xa:0<=M:=by rw[a];exact Yct ZbC ZbC
  have xf:M<=40000*40001:=by rw[a];exact Yet (YdZ (show((l.length:Nat):Int)+1<=40001 by omega) ZbC) (YdS (show((l.length:Nat):Int)<=40000 by omega) ZbH)
  have xb:IntKind.i64.wrap (((l.length:Nat):Int)*((l.length+1:Nat):Int))=M:=by rw[show((l.length+1:Nat):Int)=((l.length:Nat):Int)+1 by omega,<-a,IntKind.wrap_i64];omega
  have xe:IntKind.i64.wrap (((l.length:Nat):Int)+1)=((l.length+1:Nat):Int):=by rw[IntKind.wrap_i64];omega
  have xc:IntKind.i64.wrap (M.tdiv 2)=M/2:=by rw[YbY xa,IntKind.wrap_i64];omega
  have xd:IntKind.i64.wrap (1+M/2)=1+M/2:=by rw[IntKind.wrap_i64];omega
  have cM:=JP k C (1+M/2) (k.e.length:Nat) e.c F.c;have t:1<=kind/\kind<=13:=t;refine Ab func86 λy=>?_;rw[ntmps86];refine Go ?_;refine Gg (τ:=⟨[(1,.ptr 0 0),(3,.ptr 1 0),(4,.d (eN k.e.length))],[.var 150 ((DG ⟨k,⟨kind,p,n,d,r,o,l,s,b⟩,e⟩).map .d),.var 46 ((DI e).map .d)]⟩) ZbG [.av (.ptr 0 12),.av (.d (AP (DI e))),.av (.ptr 0 0),.av (.ptr 0 0),.av (.ptr 0 0),.av (.ptr 0 1),.av (.d (Iq k.e)),.av (.d (eN k.e.length)),.newS 46 9 (DI e),.st 8,.av (.d (eN k.e.length))] ZbG ?_ ?_ ?_
  .refine Zgk ?_;refine Zgg ?_;refine Zgt ?_;refine ZgA ?_;exact Zge
  .exact Ac ZcT Zcu
  apply Yn;refine CM 0 1 rfl rfl rfl ?_;refine CM 1 3 rfl rfl rfl ?_;apply Y1;refine Wq Ca ?_;refine Al ?_;refine Sf ?_;refine Y0<|Y1<|Wa<|Y0<|Ah<|Y1 ?_;refine Wq AE ?_;refine Wq AE ?_;refine Wq AE ?_;refine Wq AT ?_;apply Y0;refine ZZ 0 (λi:Bool×Crt=>⟨[(5,.ptr 2 0),(6,.d (eB i.1))],[.dead,.dead,.var 46 ((DI i.2).map .d)]⟩) (λi=>decide (DT k ⟨kind,p,n,d,r,o,l,s,b⟩ e)=(i.1&&FN i.2)) ?_ ?_;refine AWp.block<|Y1 ?_;refine Wq Ci ?_;refine Wa<|Y0 ?_
  .refine CT (σ':=⟨[(6,.d (eB true)),(1,.d (Fk 150 (DG ⟨k,⟨kind,p,n,d,r,o,l,s,b⟩,e⟩))),(3,.d (Fk 46 (DI e))),(4,.d (eN k.e.length)),(5,.ptr 2 0),(24,.d (eI kind)),(25,.d (eB (kind==1)))],[.dead,.dead,.var 46 ((DI e).map .d)]⟩) ?wk ?_
   case wk=>exact Ac (by exact Yd<|Yd<|Yd<|Yd<|Yp<|Yd<|Yd<|FrLe.nil) Zen
   by_cases q:kind=1
   .subst q
    refine Go ?_;refine CutS.normal (Kl k e,⟨e.n,[],e.g,e.o,e.c,e.q,e.s,e.r,e.a,e.sq,e.x,e.b⟩) ZbP ?_;exact ZkG
   by_cases A:kind=2
   .subst A
    have U:=GF e;exact ZjB
   by_cases Q:kind=4
   .subst Q
    have m:=GF e;exact ZjB
   by_cases I:kind=5
   .subst I
    have j:=GF e;exact ZjB
   by_cases N:kind=6
   .subst N
    have z:=GF e;exact ZjB
   by_cases K:kind=3
   .subst K
    refine ZfM ?_;refine CG 45 rfl (λT=>AT) ?_;refine CG 46 rfl (λT=>Ci) ?_;refine Go ?_;refine EJ (λT=>Ca) ?_;refine CG 50 rfl (λT=>AJ (u)) ?_;refine Go ?_;refine CutS.normal (decide (e.n ≥ 1)&&decide (e.n<=64)&&Kl k e,⟨0,[],e.g,e.o,e.c,e.q,e.s,e.r,e.a,e.sq,e.x,e.b⟩) ZbP ?_;exact ZkG
   by_cases g:kind=7
   .subst g
    refine ZfM ?_;refine CG 61 rfl (λT=>AT) ?_;refine CG 62 rfl (λT=>BH) ?_;refine CG 63 rfl (λT=>Ci) ?_;refine ZfM ?_;refine CG 67 rfl (λT=>AT) ?_;refine CG 68 rfl (λT=>AJ (cI)) ?_;refine ZfM ?_;refine CG 72 rfl (λT=>AE) ?_;refine CG 73 rfl (λT=>Fg) ?_;refine EJ (λT=>AE) ?_;refine CG 75 rfl (λT=>Fg) ?_;refine Zu 74 rfl 76 rfl (λT=>AJ (cR)) ?_;have H:=GF e;refine Go ?_;exact Zgn
   by_cases O:kind=8
   .subst O
    refine ZfM ?_;refine CG 61 rfl (λT=>AT) ?_;refine CG 62 rfl (λT=>BH) ?_;refine CG 63 rfl (λT=>Ci) ?_;refine ZfM ?_;refine CG 67 rfl (λT=>AT) ?_;refine CG 68 rfl (λT=>AJ (cI)) ?_;refine ZfM ?_;refine CG 72 rfl (λT=>AE) ?_;refine CG 73 rfl (λT=>Fg) ?_;refine EJ (λT=>AE) ?_;refine CG 75 rfl (λT=>Fg) ?_;refine Zu 74 rfl 76 rfl (λT=>AJ (cR)) ?_;have P:=GF e;refine Go ?_;exact Zgn
   by_cases S:kind=9
   .subst S
    refine ZfM ?_;refine CG 92 rfl (λT=>AT) ?_;refine EJ (λT=>AE) ?_;refine CG 94 rfl (λT=>AE) ?_;refine CG 95 rfl (λT=>Fg) ?_;refine CG 96 rfl (λT=>Mb Zcq Zdp) ?_;refine Zu 93 rfl 97 rfl (λT=>AJ (w)) ?_;refine Go ?_;refine EJ (λT=>Ca) ?_;refine CG 101 rfl (λT=>AJ (u)) ?_;refine Go ?_;exact Zgw
   by_cases X:kind=10
   .subst X
    refine ZfM ?_;refine CG 92 rfl (λT=>AT) ?_;refine EJ (λT=>AE) ?_;refine CG 94 rfl (λT=>AE) ?_;refine CG 95 rfl (λT=>Fg) ?_;refine CG 96 rfl (λT=>Mb Zcq Zdp) ?_;refine Zu 93 rfl 97 rfl (λT=>AJ (w)) ?_;refine Go ?_;refine EJ (λT=>Ca) ?_;refine CG 101 rfl (λT=>AJ (u)) ?_;refine Go ?_;exact Zgw
   by_cases v:kind=11
   .subst v
    refine Go ?_;refine Wq (Dn (ao rfl) (ao rfl) xe) ?_;refine Wq (Hj (ao rfl) (ao rfl) xb) ?_;refine Wq (Hh (ao rfl) (ao rfl) ZbH xc) ?_;refine Wq (Dn (ao rfl) (ao rfl) xd) ?_;refine Go ?_;refine CutS.normal (decide (JK k.n (1+M/2) (k.e.length:Nat) e.c),⟨e.n,e.cof,e.g,e.o,[],e.q,e.s,e.r,e.a,e.sq,e.x,e.b⟩) ZbP ?_;exact ZkG
   by_cases Y:kind=12
   .subst Y
    refine ZfM ?_;refine CG 136 rfl (λT=>AT) ?_;refine CG 137 rfl (λT=>AJ (cO)) ?_;refine ZfM ?_;refine CG 141 rfl (λT=>AE) ?_;refine CG 142 rfl (λT=>Fg) ?_;refine EJ (λT=>AE) ?_;refine CG 144 rfl (λT=>AT) ?_;refine EJ (λT=>AE) ?_;refine CG 146 rfl (λT=>AT) ?_;refine CG 147 rfl (λT=>BH) ?_;refine EJ (λT=>AQ) ?_;refine Wu4 143 rfl 145 rfl 148 rfl 149 rfl (λT=>AJ (cT)) ?_;refine Go ?_;refine CutS.normal (decide (JA k.n e.g)&&decide (OValid e.o)&&decide (JK k.n (e.g.length:Nat) (k.e.length:Nat) e.c),⟨e.n,e.cof,[],[],[],e.q,e.s,e.r,e.a,e.sq,e.x,e.b⟩) ZbP ?_;exact ZkG
   by_cases f:kind=13
   .subst f
    refine ZfM ?_;refine CG 162 rfl (λT=>AT) ?_;refine EJ (λT=>AE) ?_;refine CG 164 rfl (λT=>AE) ?_;refine CG 165 rfl (λT=>Fg) ?_;refine CG 166 rfl (λT=>Mb Zcq Zdp) ?_;refine Zu 163 rfl 167 rfl (λT=>AJ (cX)) ?_;refine ZfM ?_;refine CG 171 rfl (λT=>AE) ?_;refine CG 172 rfl (λT=>Fg) ?_;refine EJ (λT=>AE) ?_;refine CG 174 rfl (λT=>AT) ?_;refine Zu 173 rfl 175 rfl (λT=>AJ (cW)) ?_;refine Go ?_;refine CutS.normal (decide (((e.x.length:Nat):Int)<=64)&&decide (∀x∈e.x,PtP k.n x)&&decide (TA k.n e.b),⟨e.n,e.cof,e.g,e.o,e.c,e.q,e.s,e.r,e.a,e.sq,[],[]⟩) ZbP ?_;exact ZkG
   exact absurd t ZbC
  .rintro ⟨B,V⟩ Z
   refine Go ?_;refine EJ (λT=>AF) ?_;refine CG 182 rfl (λT=>AJ (Tb V)) ?_;refine Go ?_;exact AA (Am (ResV.tmp rfl rfl) (Ae (by rw[Z])))
 .rw [Yad L]at W
  rw[Yad λh:QH k c e=>L h.1];refine Ab func86 λy=>?_;rw[ntmps86];exact Zfz
structure FZ(f:Fct):Prop where
 k:CZ f.k
 c:ClZ f.c
 e:CrZ f.e
theorem WZ.sm(h:WZ l):SmW l:=⟨h.s,by have:=h.n;omega⟩
theorem QZ.qb(h:QZ xj):QB xj:=⟨h.n.sm,h.d.sm⟩
theorem PZ.pw(h:PZ uC):PoW uC:=λt L=>⟨(h.t t L).n.sm,(h.t t L).d.sm⟩
theorem VZ.vw{a:RQ×RQ}(h:VZ a):VW a:=⟨h.1.qb,h.2.qb⟩
theorem CZ.cw{k:Cor}(h:CZ k):CoW k:=⟨h.n,λp F=>(h.e.e p F).pw,λp F=>(h.f.e p F).pw⟩
theorem ClZ.cw{c:Clm}(h:ClZ c):ClW c:=⟨h.kind,h.p.pw,h.n,h.d,h.r,h.o.e,λp F=>(h.l.e p F).pw,h.s.e,λx C i J=>(h.b.e x C i J).vw⟩
theorem CrZ.cw{e:Crt}(h:CrZ e):CrW e:=⟨h.n,λp F=>(h.cof.e p F).pw,λp F=>(h.g.e p F).pw,h.o.e,λt L l I=>((h.c.e t L).e l I).pw,λt L l I=>((h.q.e t L).e l I).pw,λt L l I=>((h.s.e t L).e l I).pw,⟨h.r.l,λq m=>(h.r.q.e q m).qb,λi J q m=>((h.r.r i J).e q m).qb⟩,λx C=>(h.a.e x C).vw,λx C=>⟨(h.sq.e x C).1.qb,(h.sq.e x C).2.pw⟩,λx C i J=>(h.x.e x C i J).qb,λx C i J=>(h.b.e x C i J).vw⟩
theorem FZ.fw{f:Fct}(h:FZ f):FW f:=⟨h.k.cw,h.c.cw,h.e.cw⟩
theorem A1R(k:Cor)(c:Clm)(e:Crt)(n:CZ k)(G:ClZ c)(b:CrZ e):Abs prog 36 [AP (Ef k),AP (EM c),AP (DI e)] (eB (decide (QH k c e))):=by
 refine Ab func36 λy=>?_;rw[ntmps36];have U:=A0W k c e n G b;exact Zfz
noncomputable def IY (f:Fct):List Nat:=if QH f.k f.c f.e then EH f else[]
theorem Tv(f:Fct)(n:FZ f)(I:(EH f).length<=1000000000000):Abs prog 14 [AP (DG f)] (Eq 5 (IY f)):=by
 have W:=A1R f.k f.c f.e n.k n.c n.e;by_cases h:QH f.k f.c f.e
 .rw [Yal h]at W
  have K:=A2J f n.fw [] Zdn;rw[IY,Yao h];refine Ab func14 λy=>?_;rw[ntmps14];apply Y1;refine Bx ?_;refine Wa<|Y0<|Ah<|Y1 ?_;refine Wq AB ?_;refine Wq AF ?_;refine Wq AB ?_;refine Wq AF ?_;refine Wq AB ?_;refine Wq AF ?_;refine Wq (AJ (W)) ?_;refine Wq GD ?_;refine Y0<|Cf<|Ys<|Y1 ?_;refine Al ?_;refine Y0<|Y1 ?_;refine Wq AF ?_
  refine Zgm ?_;rintro _ _ ⟨rfl,rfl⟩;refine Kr ?_;exact Zfz
 .rw [Yad h]at W
  rw[IY,Yaj h];refine Ab func14 λy=>?_;rw[ntmps14];exact Zjs
noncomputable def A8p (k:Cor):List Nat:=if ON k then FY k else[]
theorem A96(k:Cor)(n:CZ k)(I:(FY k).length<=1000000000000):Abs prog 20 [AP (Ef k)] (stD (A8p k)):=by
 have W:=Vk k n;by_cases h:ON k
 .rw [Yal h]at W
  have K:=A2N k n.cw [] Zdn;rw[A8p,Yao h];refine Ab func20 λy=>?_;rw[ntmps20];apply Y1;refine Bx ?_;refine Wa<|Y0<|Ah<|Y1 ?_;refine Wq AF ?_;refine Wq (AJ (W)) ?_;refine Wq GD ?_;refine Y0<|Cf<|Ys<|Y1 ?_;refine Al ?_;refine Y0<|Y1 ?_;refine Wq AF ?_
  refine Zgm ?_;rintro _ _ ⟨rfl,rfl⟩;refine ZfR ?_;refine Wq (Fm (l:=FY k) rfl (Aa rfl) (Aa rfl) (Aa rfl)) ?_;exact Zfz
 .rw [Yad h]at W
  rw[A8p,Yaj h];refine Ab func20 λy=>?_;rw[ntmps20];exact Zfz
def A3Y(kind:Int)(p:List RTm)(o:List (Nat->Int)):List Nat:=(Bs kind++CH p)++CC o
theorem A9b(kind:Int)(p:List RTm)(o:List (Nat->Int))(B:IW kind)(F:PoW p)(s:FF (FG IW) o)(I:(A3Y kind p o).length<=1000000000000):Abs prog 21 [AP [eI kind,Lh p,Er o]] (stD (A3Y kind p o)):=by
 simp only[A3Y,Yac]at I;have W:=FS kind B [] ZiI;have K:=Rg p F (Bs kind) ZbC;have q:=Sj o s (Bs kind++CH p) ZdL;refine Ab func21 λy=>?_;rw[ntmps21];apply Y1;refine Bx ?_;refine Wa<|Y0<|Y1 ?_;refine Al ?_;refine Y0<|Y1 ?_;refine Wq AB ?_;refine Wq As ?_
 refine Bi (KZ 1 0 5 1 rfl rfl ZbH ZbC rfl rfl rfl rfl) ?_;refine AU [1,2] [] [] (W) Zby rfl rfl ZbB Zbz ZbH Zbx ZbD trivial rfl ?_;rintro _ _ ⟨rfl,rfl⟩;refine ZfR ?_;refine AU [1,2] [] [] (K) Zby rfl rfl ZbB Zbz ZbH Zbx ZbD trivial rfl ?_;rintro _ _ ⟨rfl,rfl⟩;refine ZfR ?_;refine AU [1,2] [] [] (q) Zby rfl rfl ZbB Zbz ZbH Zbx ZbD trivial rfl ?_;rintro _ _ ⟨rfl,rfl⟩;refine ZfR ?_;refine Wq (Fm (l:=A3Y kind p o) rfl (Aa rfl) (Aa rfl) (Aa rfl)) ?_;exact Zfz
structure B4(l:List Nat):Prop where
 lt:∀z∈l,z<256
 len:l.length<=40000
theorem B4.tail{c:Nat}(h:B4 (c::l)):B4 l:=⟨λz n=>h.lt z (Ybc _ n),by have:=h.len;rw[Yat]at this;omega⟩
def PG{U:Type}(p:Rd U)(D:U->Prop)(e:U->List Nat):Prop:=∀l x i,B4 l->p l=some (x,i)->D x/\B4 i/\(e x).length+i.length<=l.length
theorem Cd{f:e->Rd uv}{y:uv×List Nat}(h:vE.bind f l=.some y):∃x i,vE l=.some (x,i)/\f x i=.some y:=by
 unfold Rd.bind at h
 cases F:vE l with
 |none=>rw[F]at h;cases h
 |some z=>rw[F]at h;exact⟨z.1,z.2,rfl,h⟩
theorem A8c{m c:Nat}:(By (c%128+128*m)).length<=1+(By m).length:=by
 rw[By];split
 .simp
 .rw [Yat, show (c%128+128*m)/128=m by omega]
  omega
theorem A2y:∀(k s n:Nat) (l:List Nat) (x:Nat) (i:List Nat),B4 l->Ld k s n l=some (x,i)->∃m,x=n+m*s/\B4 i/\(By m).length+i.length<=l.length
 |0,_,_,_,_,_,_,h=>by cases h
 |k+1,s,n,[],_,_,_,h=>by cases h
 |k+1,s,n,c::l,x,i,E,h=>by
  rw[Ld]at h
  dsimp only at h
  split at h
  .cases h
  .split at h
   .rename_i G
    cases h;refine⟨c%128,rfl,E.tail,?_⟩;rw[By,Yao (YaR _ ZbC),Yat];exact ZiI
   .obtain ⟨m,q,A,K⟩:=A2y k (s*128) _ l x i E.tail h
    refine⟨c%128+128*m,?_,A,?_⟩
    .rw [q,YbG,YbR]
     congr 1;congr 1;rw[YaM 128 m,Yba,YaM s 128]
    .have:=A8c (m:=m) (c:=c)
     rw[Yat];omega
theorem Wv:PG Pp (λn=>n<18446744073709551616) By:=λl x i E h=>by
 obtain⟨m,q,A,K⟩:=A2y 10 1 0 l x i E h;refine⟨Fu h,A,?_⟩;rw[q,YaH,Ybz];exact K
theorem VS{U:Type}{p:Rd U}{D:U->Prop}{e:U->List Nat}(F:PG p D e):∀n,PG (Co p n) (λl=>(∀x∈l,D x)/\l.length=n) (λl=>l.flatMap e)
 |0=>λl x i E h=>by
  cases h;exact⟨⟨(λx C=>by cases C),rfl⟩,E,by simp⟩
 |n+1=>λl x i E h=>by
  obtain⟨a,d,q,A⟩:=Cd h;obtain⟨b,B,K,Q⟩:=Cd A;cases Q;obtain⟨G,j,W⟩:=F l a d E q;obtain⟨⟨I,z⟩,L,o⟩:=VS F n d b i j K;refine⟨⟨λx C=>?_,by rw[Yat,z]⟩,L,by have o:(b.flatMap e).length+i.length<=d.length:=o;show((a::b).flatMap e).length+_<=_;rw[Ydj,Yac];omega⟩;rcases YaL.1 C with rfl | C
  .exact G
  .exact I x C
theorem UU{c:List Nat->Bool}{u:Unit}(h:Il c l=some (u,g)):c l=true/\g=l:=by
 unfold Il at h;split at h
 .rename_i G
  cases h;exact⟨G,rfl⟩
 .cases h
theorem HJ(F:PG vE ul ug):PG (Fb G0 vE) (LZ ul) (Bp ug):=λl x i E h=>by
 obtain⟨n,d,q,A⟩:=Cd h;obtain⟨u,a,K,Q⟩:=Cd A;obtain⟨g,rfl⟩:=UU K;have g:n<=a.length:=YcY g;obtain⟨_,j,W⟩:=Wv l n a E q;obtain⟨⟨B,z⟩,L,o⟩:=VS F n a x i j Q;refine⟨⟨B,by rw[z];have:=j.len;omega⟩,L,?_⟩;rw[Bp,Yac,z];have o:(x.flatMap ug).length+i.length<=a.length:=o;omega
theorem A7I:PG Jh (λw=>w<4294967296) Cy:=λl x i E h=>by
 match l,E,h with
 |H::B::L::z::b,E,h=>
  cases h;have c:=E.lt H ZbR;have q:=E.lt B ZbR;have A:=E.lt L ZbR;have K:=E.lt z ZbR;exact⟨by omega,E.tail.tail.tail.tail,by simp[Cy];omega⟩
 |[],_,h=>cases h
 |[_],_,h=>cases h
 |[_,_],_,h=>cases h
 |[_,_,_],_,h=>cases h
theorem A6f:PG (Px G0) (λx=>WZ x.2) (λx=>FD x.1 x.2):=λl x i E h=>by
 obtain⟨n,d,q,A⟩:=Cd h;obtain⟨u,a,K,Q⟩:=Cd A;obtain⟨g,rfl⟩:=UU K;have g:n/2<=a.length/4:=YcY g;obtain⟨J,U,k,B⟩:=Cd Q;cases B;obtain⟨_,j,W⟩:=Wv l n a E q;obtain⟨⟨C,z⟩,L,o⟩:=VS A7I (n/2) a J i j k;have I:=j.len;refine⟨⟨C,by show J.length<=10000;rw[z];omega⟩,L,?_⟩;show(FD (decide (n%2=1)) J).length+i.length<=l.length;rw[FD,Yac,z]
 have H:2*(n/2)+(if decide (n%2=1)=true then 1 else 0)=n:=by
  by_cases h:n%2=1
  .simp [h];omega
  .simp [h];omega
 rw[H];have o:(J.flatMap Cy).length+i.length<=a.length:=o;omega
theorem Pd:PG (GQ G0) QZ CD:=λl x i E h=>by
 obtain⟨a,d,q,A⟩:=Cd h;obtain⟨c,B,K,Q⟩:=Cd A;cases Q;obtain⟨C,j,W⟩:=A6f l a d E q;obtain⟨F,L,o⟩:=A6f d c i j K;exact⟨⟨C,F⟩,L,by rw[CD,Yac];have W:(FD a.1 a.2).length+d.length<=l.length:=W;have o:(FD c.1 c.2).length+i.length<=d.length:=o;show(FD a.1 a.2).length+(FD c.1 c.2).length+_<=_;omega⟩
theorem Pk[Inhabited e](F:PG vE ul ug):PG (Lc vE) (FG ul) (Kb ug):=λl x B E h=>by
 obtain⟨L,d,q,A⟩:=Cd h;cases A;obtain⟨⟨G,I⟩,j,W⟩:=VS F 8 l L B E q;refine⟨λi J=>G _ (BC ZbC),j,?_⟩
 have:Kb ug (λi=>L.getD i default)=L.flatMap ug:=by
  match L,I with
  |[v,C,P,c,S,V,K,X],_=>rfl
 rw[this];exact W
theorem KD:PG (Ii G0) IW Bs:=λl x i E h=>by
 obtain⟨n,d,q,A⟩:=Cd h;cases A;obtain⟨B,j,W⟩:=Wv l n i E q
 have C:IW (if n%2=0 then((n/2:Nat):Int)else -((n/2:Nat):Int)-1)/\So (if n%2=0 then((n/2:Nat):Int)else -((n/2:Nat):Int)-1)=n:=by
  unfold IW So;split<;>(refine⟨by omega,?_⟩;split<;>omega)
 exact⟨C.1,j,by rw[Bs,C.2];exact W⟩
theorem AaC:PG (Pz G0) (λ_=>True) (λz=>By (u64 z)):=λl x i E h=>by
 obtain⟨n,d,q,A⟩:=Cd h;obtain⟨B,j,W⟩:=Wv l n d E q;split at A
 .cases A
  refine⟨trivial,j,?_⟩;show(By (u64 (n:Int))).length+_<=_;rw[show u64 (n:Int)=n by unfold u64;omega];exact W
 .cases A
theorem A7P:PG (Jj G0) TZ Eu:=λl x i E h=>by
 obtain⟨q,d,A,B⟩:=Cd h;obtain⟨m,a,K,Q⟩:=Cd B;cases Q;obtain⟨C,j,W⟩:=Pd l q d E A;obtain⟨_,L,o⟩:=Pk AaC d m i j K;exact⟨⟨C.n,C.d⟩,L,by rw[Eu,Yac];have W:(FD q.b q.l++FD q.b' q.l').length+d.length<=l.length:=W;dsimp only;omega⟩
theorem We:PG (Hs G0) PZ CH:=λl x i E h=>by
 obtain⟨d,b,e⟩:=HJ A7P l x i E h;exact⟨⟨d.e,d.n⟩,b,e⟩
theorem JX:PG (EE G0) (LZ PZ) Bj:=HJ We
theorem RK:PG (Lm G0) (LZ (LZ PZ)) BQ:=HJ JX
theorem Yq:PG (Lx G0) (LZ (FG IW)) CC:=HJ (Pk KD)
theorem A4Z:PG (QK G0) (LZ QZ) GW:=HJ Pd
theorem A9w:PG (TK G0) VZ GT:=λl x i E h=>by
 obtain⟨a,d,q,A⟩:=Cd h;obtain⟨c,B,K,Q⟩:=Cd A;cases Q;obtain⟨C,j,W⟩:=Pd l a d E q;obtain⟨F,L,o⟩:=Pd d c i j K;exact⟨⟨C,F⟩,L,by rw[GT,Yac];dsimp only;omega⟩
theorem Zo:PG (LT G0) (LZ (FG VZ)) Gm:=HJ (Pk A9w)
theorem AbU:PG (sqP G0) SZ Kt:=λl x i E h=>by
 obtain⟨a,d,q,A⟩:=Cd h;obtain⟨c,B,K,Q⟩:=Cd A;cases Q;obtain⟨C,j,W⟩:=Pd l a d E q;obtain⟨F,L,o⟩:=We d c i j K;exact⟨⟨C,F⟩,L,by rw[Kt,Yac];dsimp only;omega⟩
theorem Aa2:PG (QN G0) (FG IW) Gz:=Pk KD
theorem Aai:PG (Fb G0 (Ii G0)) (LZ IW) (Bp Bs):=HJ KD
theorem A7L:PG (Lc (QK G0)) (FG (LZ QZ)) (Kb GW):=Pk A4Z
theorem Aat:PG (Fb G0 (TK G0)) (LZ VZ) (Bp GT):=HJ A9w
theorem A9T:PG (Fb G0 (sqP G0)) (LZ SZ) (Bp Kt):=HJ AbU
theorem Aa9:PG (Fb G0 (ptP G0)) (LZ (FG QZ)) (Bp QP):=HJ (Pk Pd)
theorem AaO:PG (WN G0) CZ FY:=λl x i E h=>by
 have c:=h;obtain⟨C,d,t,q⟩:=Cd c;obtain⟨P,a,B,A⟩:=Cd q;obtain⟨I,U,m,K⟩:=Cd A;cases K;obtain⟨F,j,W⟩:=KD l C d E t;obtain⟨G,L,o⟩:=JX d P a j B;obtain⟨z,J,H⟩:=JX a I i L m;exact⟨⟨F,G,z⟩,J,by simp only[FY,Yac];omega⟩
theorem AaR:PG (MU G0) ClZ Ix:=λl x i E h=>by
 have c:=h;obtain⟨I,d,t,q⟩:=Cd c;obtain⟨P,a,F,A⟩:=Cd q;obtain⟨X,U,m,K⟩:=Cd A;obtain⟨a4,n,Y,Q⟩:=Cd K;obtain⟨a5,r,v,k⟩:=Cd Q;obtain⟨a6,s,Z,B⟩:=Cd k;obtain⟨a7,u,p7,g⟩:=Cd B;obtain⟨a8,w,p8,C⟩:=Cd g;obtain⟨a9,l9,p9,S⟩:=Cd C;cases S;obtain⟨J,j,W⟩:=KD l I d E t;obtain⟨M,L,o⟩:=We d P a j F;obtain⟨z,b,H⟩:=KD a X U L m;obtain⟨d4,b4,O⟩:=KD U a4 n b Y;obtain⟨d5,R,G⟩:=KD n a5 r b4 v;obtain⟨d6,f,N⟩:=Yq r a6 s R Z;obtain⟨d7,b7,V⟩:=JX s a7 u f p7;obtain⟨d8,y,T⟩:=Aai u a8 w b7 p8;obtain⟨d9,p,e⟩:=Zo w a9 i y p9;exact⟨⟨J,M,z,d4,d5,d6,d7,d8,d9⟩,p,by simp only[Ix,Yac];omega⟩
theorem Aa0:PG (VO G0) RZ JH:=λl x i E h=>by
 have c:=h;obtain⟨C,d,t,q⟩:=Cd c;obtain⟨P,a,B,A⟩:=Cd q;obtain⟨I,U,m,K⟩:=Cd A;cases K;obtain⟨F,j,W⟩:=Aa2 l C d E t;obtain⟨G,L,o⟩:=A4Z d P a j B;obtain⟨z,J,H⟩:=A7L a I i L m;exact⟨⟨F,G,z⟩,J,by simp only[JH,Yac];omega⟩
theorem AaL:PG (KL G0) CrZ Kk:=λl x i E h=>by
 have c:=h;obtain⟨I,d,t,q⟩:=Cd c;obtain⟨P,a,F,A⟩:=Cd q;obtain⟨Z,U,m,K⟩:=Cd A;obtain⟨a4,u,b,Q⟩:=Cd K;obtain⟨a5,l5,Y,k⟩:=Cd Q;obtain⟨a6,l6,e,B⟩:=Cd k;obtain⟨a7,l7,p7,g⟩:=Cd B;obtain⟨a8,l8,p8,C⟩:=Cd g;obtain⟨a9,l9,p9,S⟩:=Cd C;obtain⟨xc,xa,xm,X⟩:=Cd S;obtain⟨xd,xb,xn,v⟩:=Cd X;obtain⟨xe,xi,xo,p⟩:=Cd v;cases p;obtain⟨J,j,W⟩:=KD l I d E t;obtain⟨M,L,o⟩:=JX d P a j F;obtain⟨z,f,H⟩:=JX a Z U L m;obtain⟨d4,b4,O⟩:=Yq U a4 u f b;obtain⟨d5,b5,G⟩:=RK u a5 l5 b4 Y;obtain⟨d6,r,N⟩:=RK l5 a6 l6 b5 e;obtain⟨d7,b7,V⟩:=RK l6 a7 l7 r p7;obtain⟨d8,b8,T⟩:=Aa0 l7 a8 l8 b7 p8;obtain⟨d9,w,s⟩:=Aat l8 a9 l9 b8 p9;obtain⟨xj,xf,n⟩:=A9T l9 xc xa w xm;obtain⟨xk,xg,y⟩:=Aa9 xa xd xb xf xn;obtain⟨xl,xh,R⟩:=Zo xb xe i xg xo;exact⟨⟨J,M,z,d4,d5,d6,d7,d8,d9,xj,xk,xl⟩,xh,by simp only[Kk,Yac];omega⟩
theorem A6p:PG (Lf G0) FZ EH:=λl x i E h=>by
 have c:=h;obtain⟨C,d,t,q⟩:=Cd c;obtain⟨P,a,B,A⟩:=Cd q;obtain⟨I,U,m,K⟩:=Cd A;cases K;obtain⟨F,j,W⟩:=AaO l C d E t;obtain⟨G,L,o⟩:=AaR d P a j B;obtain⟨z,J,H⟩:=AaL a I i L m;exact⟨⟨F,G,z⟩,J,by simp only[EH,Yac];omega⟩
abbrev rwD(T:Nat)(L:List (Nat×List (Nat->Int))):D:=slD T 1 (L.map λx=>[r5D x.1 x.2])
def TM(L:List (Nat×List (Nat->Int))):Prop:=∀x∈L,A4e x.2
abbrev OR(T:Nat)(V:List Int):D:=slD T 1 (V.map λz=>[ex (.int .i8 z)])
def I8(V:List Int):Prop:=∀z∈V,-128<=z/\z<=127
def Bb(Q:List (List Tm)):D:=slD 28 1 (Q.map λP=>[BS P])
theorem Fe(Q:List (List Tm)):Bb Q=Iq (Q.map λP=>P.map EF):=by
 unfold Bb Iq;rw[Ycj];congr 1;exact YaS λP _=>by rw[KA];rfl
def Fq(L:List (Nat×List (Nat->Int)))(k:Nat):List (List Tm):=(L.take k).map λx=>A2A x.2 2 2 3
abbrev Ba(L:List (Nat×List (Nat->Int))):List (List Tm):=Fq L (min L.length 6)
def AR(V:List Int)(k:Nat):Int:=if V.length=0 then 0 else V.getD (k%V.length) default
theorem Cj{V:List Int}(h:I8 V)(k:Nat):-128<=AR V k/\AR V k<=127:=by
 unfold AR;split
 .omega
 .rename_i c
  have I:k%V.length<V.length:=YaR _ ZbC;rw[Yaa,Yab I];exact h _ (Ybs _)
theorem CI(T:Nat)(V:List Int)(f:I8 V)(k:Nat)(B:k<=1000000)(I:V.length<=9223372036854775807):Abs prog 60 [OR T V,eN k] (eI (AR V k)):=by
 by_cases c:V.length=0
 .refine Ab func60 λy=>?_
  rw[ntmps60];refine Go ?_;exact AA (Am (ResV.tmp rfl rfl) (Ae (by rw[AR,Yao c])))
 .have O:k%V.length<V.length:=YaR _ ZbC
  have n:=Cj f k;rw[AR,Yaj c]at n;refine Ab func60 λy=>?_;rw[ntmps60];refine Y1<|Wa<|Y0<|Ah<|Y1<|Wm ?_;refine Wq BH ?_;refine Wq AL ?_;refine Y0<|Cf<|Ys<|Y1<|Wm<|Wm<|Wm ?_;refine Wq BH ?_;refine Wq A1n ?_;refine Wq Dt ?_;refine Wq AT ?_;refine Wq (Ge (ao rfl) (Aa rfl) (Aa rfl) ZbX ZbX) ?_;refine Wa<|Y0<|BR ?_
  exact AA (Am (ResV.tmp rfl rfl) (Ae (by simp only[YaU];rw[AR,Yaj c])))
theorem Ex(Q:List (List Tm))(i n:Nat)(J:i<=100000)(g:n<=100000)(I:Q.length<=9223372036854775807):Abs prog 62 [Bb Q,eN i,eN n] (Bb ((List.range n).map λj=>if Q.length=0 then[]else Q.getD ((i+j)%Q.length) default)):=by
 obtain⟨F,hF⟩:∃F:Nat->List Tm,F=λj=>if Q.length=0 then[]else Q.getD ((i+j)%Q.length) default:=⟨_,rfl⟩
 rw[<-hF];have Y:∀k,(List.range (k+1)).map F=(List.range k).map F++[F k]:=λk=>by rw[YcB,Ycg];rfl
 refine Ab func62 λy=>?_;rw[ntmps62];refine Go ?_;refine AC (λw e=>∃k,k<=n/\w=n-k/\e=⟨[(0,.d (Bb Q)),(1,.d (eN i)),(2,.d (eN n)),(7,.own 0),(8,.d (eN k))],[.row 28 1 (((List.range k).map F).map λP=>[BS P])]⟩) ?le ⟨0,by omega,rfl,rfl⟩ ?round
 case le=>exact Ac ZcO Zdt
 case round=>
  rintro w _ ⟨k,B,rfl,rfl⟩;by_cases O:k<n
  .by_cases c:Q.length=0
   .have p:F k=[]:=by rw [hF];exact Yao c
    refine Ah<|Y1<|Wm<|Wm ?_;refine Wq Bc ?_;refine Y0<|Ct<|Ys<|Ah<|AWp.block<|Y1<|Wm ?_;refine Wq BH ?_;refine Wq Bc ?_;refine Y0<|Ct<|AWp.region<|Wm ?_;refine TD (Aa rfl) (Aa rfl) rfl rfl rfl rfl rfl ?_
    refine Bi (σ':=⟨[(19,.d (BS [])),(18,.own 0),(0,.d (Bb Q)),(1,.d (eN i)),(2,.d (eN n)),(8,.d (eN k))],[.row 28 1 (((List.range k).map F).map λP=>[BS P])]⟩) ?wk ?_
    case wk=>exact Ac (by exact FrLe.cons rfl (Gi rfl (D.le.refl _))<|FrLe.cons rfl (AVle.own rfl)<|Yd<|Yd<|Yd<|Yd<|FrLe.nil) Zdt
    refine Go ?_;refine Ai (n-(k+1)) ZbC ⟨k+1,by omega,rfl,rfl⟩ ?_;exact Ac ZcO (by(refine HpLe.cons (OwLe.row (by rw[Y,Ycg,p];rfl)) ?_);exact HpLe.nil)
   .have p:F k=Q.getD ((i+k)%Q.length) default:=by rw [hF];exact Yaj c
    have W:(i+k)%Q.length<Q.length:=YaR _ ZbC;refine Go ?_;refine Ai (n-(k+1)) ZbC ⟨k+1,by omega,rfl,rfl⟩ ?_;exact Ac ZcO (by(refine HpLe.cons (OwLe.row (by rw[Y,Ycg,p];simp only[YaU];rfl)) ?_);exact HpLe.nil)
  .obtain rfl:k=n:=by omega
   exact Zfz
theorem EB(T:Nat)(L:List (Nat×List (Nat->Int)))(s:TM L):Abs prog 59 [rwD T L,eN 2,eI 2,eN 3,eN 6] (Bb (Ba L)):=by
 have A:∀k,k<L.length->Fq L (k+1)=Fq L k++[A2A (L.getD k default).2 2 2 3]:=λk B=>by
  unfold Fq;rw[YcX,Ycg,Yaa,Yab B];rfl
 refine Ab func59 λy=>?_;rw[ntmps59];refine Go ?_;refine AC (λw e=>∃k,k<=min L.length 6/\w=min L.length 6-k/\e=⟨[(0,.d (rwD T L)),(1,.d (eN 2)),(2,.d (eI 2)),(3,.d (eN 3)),(4,.d (eN 6)),(11,.own 0),(12,.d (eN k))],[.row 28 1 ((Fq L k).map λP=>[BS P])]⟩) ?le ⟨0,by omega,rfl,rfl⟩ ?round
 case le=>exact Ac Zej Zdt
 case round=>
  rintro w _ ⟨k,B,rfl,rfl⟩;by_cases O:k<min L.length 6
  .have X:k<L.length:=by omega
   have Y:A4e (L.getD k default).2:=s _ ZdR;have c:=A4g (L.getD k default).1 (L.getD k default).2 2 3 2 Y ZbC ZbC ZbC ZbC;have q:=A k X;have o:(Fq L k).length=min k L.length:=by simp[Fq]
   refine Go ?_;refine Ai (min L.length 6-(k+1)) ZbC ⟨k+1,by omega,rfl,rfl⟩ ?_;exact Ac Zej (by(refine HpLe.cons (OwLe.row (by rw[q,Ycg];rfl)) ?_);exact HpLe.nil)
  .by_cases X:k<L.length
   .obtain rfl:k=min L.length 6:=by omega
    exact Zfz
   .obtain rfl:k=min L.length 6:=by omega
    exact Zfz
def A5x(l:List Int)(j:Nat):Int:=l.getD j 0
def CW(z:Nat):List (Nat->Int):=
 if z%8=0 then[]else if z%8=1 then[BV 255]else if z%8=2\/z%8=3 then revRows else if z%8=4 then[A5x [2,3,1,1,1,1,1,1]]else if z%8=5 then[A5x [1,1,0,0,0,0,0,0],A5x [1,0,2,1,1,1,1,1]]else BV (z/8%16)::revRows
theorem A9O(h:n<256):IntKind.u8.wrap (n:Int)=n:=by
 exact Zgi
theorem AbS(z:Nat)(n:z<256):IntKind.u8.wrap (((z:Nat):Int).tdiv 8)=((z/8:Nat):Int):=by
 rw[show((z:Nat):Int).tdiv 8=((z/8:Nat):Int)by rw[YbY ZbC];omega];exact A9O ZbC
theorem PL(z:Nat)(n:z<256):Abs prog 63 [ex (.int .u8 (z:Nat))] (Er (CW z)):=by
 have O:=PN (z/8%16) ZbC;refine Ab func63 λy=>?_;rw[ntmps63];by_cases c:z%8=0
 .have U:=A6Z;refine Go ?_
  exact AA (Am (ResV.tmp rfl rfl) (Ae (by simp[CW,c])))
 by_cases q:z%8=1
 .have b:=ZE;refine Go ?_
  exact AA (Am (ResV.tmp rfl rfl) (Ae (by simp[CW,q])))
 by_cases A:z%8=2
 .have s:=Ov;refine Go ?_
  exact AA (Am (ResV.tmp rfl rfl) (Ae (by simp[CW,A])))
 by_cases K:z%8=3
 .refine Y1<|Wa<|Y0<|Ah<|Y1<|Wm ?_;refine Wq A1n ?_;refine Y0<|AWp.block<|Y1 ?_;refine Wq AL ?_;refine Wa<|Y0<|Cf<|Y1 ?_;refine Wq AL ?_;refine Wa<|Y0<|Cf<|Ah<|Y1 ?_;refine Wq AL ?_;refine Wa<|Y0<|Cf<|AWp.region ?_;refine Wq Bc ?_;refine Wa<|Y0<|Ct<|Y1 ?_;refine Wq (AJ (Ov)) ?_;refine Wa<|Y0<|BR<|DX<|Dv ?_
  exact AA (Am (ResV.tmp rfl rfl) (Ae (by simp[CW,K])))
 by_cases Q:z%8=4
 .refine Go ?_
  exact AA (Am (ResV.tmp rfl rfl) (Ae (by simp only[CW,Q];rfl)))
 by_cases k:z%8=5
 .refine Go ?_
  exact AA (Am (ResV.tmp rfl rfl) (Ae (by simp only[CW,k];rfl)))
 refine Go ?_;refine Wq (Hh (ao rfl) (ao rfl) ZbH (AbS z n)) ?_;refine Go ?_;exact AA (Am (ResV.tmp rfl rfl) (Ae (by simp[CW,c,q,A,K,Q,k])))
theorem DJ(a:Int){j:Nat}(X:j<=7):IntKind.i64.wrap (((BitVec.ofInt 64 a &&& BitVec.ofInt 64 ((2^j-1:Nat):Int)).toNat:Nat):Int)=a%((2^j:Nat):Int):=by
 have q:(BitVec.ofInt 64 ((2^j-1:Nat):Int)).toNat=2^j-1:=by
  rcases(show j=0\/j=1\/j=2\/j=3\/j=4\/j=5\/j=6\/j=7 by omega)with rfl | rfl | rfl | rfl | rfl | rfl | rfl | rfl<;>rfl
 rw[BitVec.toNat_and,q,BitVec.toNat_ofInt,YdP]
 have A:∀x:Nat,x<128->IntKind.i64.wrap (x:Int)=x:=λx C=>by
  exact Zgi
 rcases(show j=0\/j=1\/j=2\/j=3\/j=4\/j=5\/j=6\/j=7 by omega)with rfl | rfl | rfl | rfl | rfl | rfl | rfl | rfl<;>(rw[A _ ZbC];omega)
section
variable {P:Program} {hp:List Ow} {arg:Operand->AV} {dd:Option Tmp} {ty:TypeId} {ps:String} {af:Array Edge} {gd:Option (Nat×Bool)} {T U:TypeId} {x y:Operand} {a b r:Int} {k:IntKind}
theorem Ep(C:arg x=.d (ex (.int k a)))(M:arg y=.d (ex (.int k b)))(Y:k.wrap ((BitVec.ofInt k.bits a &&& BitVec.ofInt k.bits b).toNat)=r):Quiet P hp ⟨dd,.binOp .and T x y U,ty,ps,af,gd⟩ arg (.d (ex (.int k r))):=
 CO rfl C M λw=>by
  simp only[eqGuard,binOp,Op.intBits,Y];simp[Y]
theorem EA(j:Nat)(C:arg x=.d (eI a))(M:arg y=.d (eN (2^j-1)))(X:j<=7):Quiet P hp ⟨dd,.binOp .and T x y U,ty,ps,af,gd⟩ arg (.d (eI (a%((2^j:Nat):Int)))):=
 Ep C M (DJ a X)
end
theorem Kz(n d:Int)(q:-128<=n)(A:n<=127)(K:0<d)(Q:d<=127):Abs prog 113 [AP [ex (.int .i8 n),ex (.int .i8 d),ex (.int .u8 0)]] (AP (DE (Rat.divInt n d))):=by
 have w:(Aw n.natAbs).length<=1:=by simpa using(JG (x:=n) ZbC ZbC).1
 have x:(Aw d.natAbs).length<=1:=by simpa using(JG (x:=d) ZbC ZbC).1
 have B:=KQ n ZbC ZbC;have F:=KQ d ZbC ZbC;have h:=KQ 4611686018427387904 ZbH ZbH;have g:=Oq n d ZbC ZbC ZbC;refine Ab func113 λy=>?_;rw[ntmps113];refine Go ?_;refine Dy 10 ?_;exact ZjA
theorem WO{a:Int}(c:-128<=a)(q:a<=127):IntKind.i8.wrap a=a:=by
 exact Zgi
theorem A0H{c:e->List D}{x d:Nat->e}:GY (upF (λi=>c (if i<n then x i else d i)) n (c (x n)))=GY λi=>c (if i<n+1 then x i else d i):=by
 congr 1;funext i;unfold upF;by_cases h:i=n
 .subst h
  simp
 .by_cases b:i<n
  .simp [h,b,show i<n+1 by omega]
  .simp [h,b,show¬i<n+1 by omega]
theorem Og{n d:Int}(q:-128<=n)(A:n<=127)(K:0<d)(Q:d<=127):RSz (Rat.divInt n d) 2:=by
 rw[Ydl,Rat.div_def]
 exact RSz.mul (JG (x := n) ZbC ZbC : RSz ((n : Int) : Rat) 1) (A8V (JG (x := d) ZbC ZbC : RSz ((d : Int) : Rat) 1) (by
  show(d:Rat).num≠0;rw[YeO];omega))
abbrev zI:RQ×RQ:=(Mq ((0:Int):Rat),Mq ((0:Int):Rat))
def loB(V:List Int)(k i:Nat):Rat:=Rat.divInt (AR V (k+i)) 3
def wiB(V:List Int)(k:Nat):Rat:=Rat.divInt (AR V k%8) 2
def ivB(V:List Int)(k i:Nat):RQ×RQ:=(Mq (loB V k i),Mq (loB V k i+wiB V k))
def Eg(V:List Int)(k:Nat)(i:Nat):RQ×RQ:=if i<2 then ivB V k i else zI
theorem LW(T:Nat)(V:List Int)(f:I8 V)(I:V.length<=9223372036854775807)(m:Nat)(v:m<=1000):Abs prog 64 [OR T V,eN m] (AP (DB (Eg V m))):=by
 have g:=Fa 0 ZbH ZbH;have n:=Cj f m;have C:=CI T V f m ZbC I;have A:=Kz (AR V m%8) 2 ZbC ZbC ZbC ZbC;refine Ab func64 λy=>?_;rw[ntmps64];refine Go ?_;refine AC (λw e=>∃k,k<=8/\w=8-k/\e=⟨[(0,.d (OR T V)),(1,.d (eN m)),(4,.ptr 0 0),(5,.ptr 1 0),(6,.d (eN k))],[.var 131 ((DB λ_=>default).map .d),.var 131 ((GY λi=>Ju (if i<k then zI else default)).map .d)]⟩) ?le ⟨0,by omega,rfl,rfl⟩ ?round
 case le=>exact Ac ZdC (by exact HpLe.cons (HG RA)<|HpLe.cons (HG RA)<|HpLe.nil)
 case round=>
  rintro w _ ⟨k,B,rfl,rfl⟩;by_cases O:k<8
  .refine Go ?_;refine MM (ao rfl) (ao rfl) rfl (Aa rfl) rfl (HC (λ_=>rfl) rfl O) rfl ?_;refine Go ?_
   refine Ai (8-(k+1)) ZbC ⟨k+1,by omega,rfl,rfl⟩ ?_;exact Ac ZdC (by apply Yv;refine HpLe.cons (OwLe.varD (A0H (c:=Ju) (x:=λ_=>zI) (d:=λ_=>default))) ?_;exact HpLe.nil)
  .obtain rfl:k=8:=by omega
   refine Go ?_;refine AC (λw e=>∃k,k<=2/\w=2-k/\e=⟨[(0,.d (OR T V)),(1,.d (eN m)),(4,.ptr 0 0),(5,.ptr 1 0),(7,.d (eN k))],[.var 131 ((DB λ_=>default).map .d),.var 131 ((GY λi=>Ju (if i<k then ivB V m i else zI)).map .d)]⟩) ?le2 ⟨0,by omega,rfl,rfl⟩ ?round2
   case le2=>exact Ac ZdC Zcu
   case round2=>
    rintro w _ ⟨k,B,rfl,rfl⟩;by_cases O:k<2
    .have q:=Cj f (m+k)
     have h:=CI T V f (m+k) ZbC I;have c:=Kz (AR V (m+k)) 3 ZbC ZbC ZbC ZbC;have z:=Pq (loB V m k) (wiB V m) 2 2 (Og ZbC ZbC ZbC ZbC) (Og ZbC ZbC ZbC ZbC) ZbC;refine Ah<|Y1<|Wm ?_;refine Wq Bc ?_;refine Y0<|Ct<|Ys<|Ah<|AWp.block<|Y1<|Wm<|Wm<|Wm ?_;refine Wq Xe ?_;refine Wq (AJ (h)) ?_;refine Wq (AO (ao rfl) (Aa rfl) (Aa rfl) (WO ZbC ZbC)) ?_;(refine De rfl rfl ?_;(refine AI (Aa rfl) rfl rfl rfl ?_;(repeat ((first | refine⟨_,Ar (ao rfl),?_⟩ | refine⟨_,Po rfl,?_⟩);refine⟨_,rfl,?_⟩));refine⟨_,rfl,?_⟩));refine Wq (AJ (c)) ?_;refine Al ?_;refine Sf ?_;apply Y0
     refine Dy 13 ?_;refine DA ?_;refine Xq (EA 3 rfl rfl ZbC) ?_;refine⟨_,HStep.q rfl (AO (ah rfl) (Aa rfl) (Aa rfl) (WO (a:=AR V m%8) ZbC ZbC)),?_⟩;refine DA ?_;refine MM (ao rfl) (ao rfl) rfl (Aa rfl) rfl (HC (i:=k) (v:=Ju (ivB V m k)) (λ_=>rfl) rfl ZbC) rfl ?_;refine ZgR ?_;exact Ac ZdC (by apply Yv;refine HpLe.cons (OwLe.varD (A0H (c:=Ju) (x:=ivB V m) (d:=λ_=>zI))) ?_;exact HpLe.nil)
    .obtain rfl:k=2:=by omega
     exact ZfF
end
