/- Part 27. No condition. -/
import Derived.Test.YtcikkglcoeedlaaGreatBk18
import Derived.Test.YtcikkglcoeedlaaGreatBk19
import Derived.Test.YtcikkglcoeedlaaGreatBk20
import Derived.Test.YtcikkglcoeedlaaGreatBk21
import Derived.Test.YtcikkglcoeedlaaGreatBk22
import Derived.Test.YtcikkglcoeedlaaGreatBk23
import Derived.Test.YtcikkglcoeedlaaGreatBk24
import Derived.Test.YtcikkglcoeedlaaGreatBk25
set_option linter.unusedSimpArgs false
set_option linter.unusedVariables false
set_option maxRecDepth 100000
set_option maxHeartbeats 4000000
namespace Go.Proofs.YtcikkglcoeedlaaGreat
open _root_.Go.Proofs.Tryz
variable{uB:List RTm}{n:Nat}{e:Type}{xi:Nat->e}{xh:RQ}
section
open Go.RowKit
theorem A7d{s t:Tm}(h:EC s=EC t):s=t:=by
 have A:decide (s.c.num<0)=decide (t.c.num<0):=congrArg RTm.b h;have B:As s.c.num.natAbs=As t.c.num.natAbs:=congrArg RTm.l h;have L:decide ((s.c.den:Int)<0)=decide ((t.c.den:Int)<0):=congrArg RTm.b' h;have S:As (s.c.den:Int).natAbs=As (t.c.den:Int).natAbs:=congrArg RTm.l' h;have n:s.m=t.m:=congrArg RTm.m h;have Z:=Qw A B;have C:=Qw L S;have H:s.c.den=t.c.den:=by omega
 have K:s.c=t.c:=Rat.ext Z H;cases s;cases t;simp only[Tm.mk.injEq];exact⟨K,n⟩
open Classical in
noncomputable def toT (r:RTm):Tm:=if h:∃t,EC t=r then h.choose else default
noncomputable def Mk (p:List RTm):List Tm:=p.map toT
theorem A4p(t:Tm):toT (EC t)=t:=by
 have h:∃p,EC p=EC t:=⟨t,rfl⟩;unfold toT;rw[dif_pos h];exact A7d h.choose_spec
theorem A08{r:RTm}(h:QOk r.b r.l r.b' r.l'):EC (toT r)=r:=by
 obtain⟨q,Z,s,H,K⟩:=h;have B:∃t,EC t=r:=⟨⟨q,r.m⟩,by cases r;simp only[EC,RTm.mk.injEq];exact⟨Z.symm,s.symm,H.symm,K.symm,trivial⟩⟩;unfold toT;rw[dif_pos B];exact B.choose_spec
theorem KF(P:List Tm):Mk (P.map EC)=P:=by
 unfold Mk;rw[Ycc]
 conv=>rhs;rw[<-Yew P]
 exact YaX λt _=>A4p t
theorem ZI(p:List RTm):(Mk p).length=p.length:=by simp[Mk]
theorem UL(h:HX uB):uB=(Mk uB).map EC/\Canon (Mk uB)/\PIn (Mk uB) 0 65535:=by
 have A:uB=(Mk uB).map EC:=by
  unfold Mk;rw[Ycc]
  conv=>lhs;rw[<-Yew uB]
  refine YaX λr X=>?_;obtain⟨k,C,e⟩:=YcI X;have B:=(h k C).1.1;have L:Fj uB k=r:=by unfold Fj;exact ZgV
  rw[L]at B;exact(A08 B).symm
 obtain⟨P,E⟩:∃P,P=Mk uB:=⟨_,rfl⟩;rw[<-E]at A ⊢;subst A;have F:∀k,k<P.length->Fj (P.map EC) k=EC (BA P k):=λk C=>Vb C;have J:(P.map EC).length=P.length:=Yar _;refine⟨rfl,⟨A9U λk C c=>?_,λt M=>?_⟩,λt M=>?_⟩
 .have S:=(h k (by rw [J]; exact C)).2 c
  rw[F k C,F (k-1) ZbD]at S;exact S
 .obtain ⟨k,C,e⟩:=YcI M
  have S:=(h k (by rw[J];exact C)).1.2.1;have n:BA P k=t:=by unfold BA;exact ZgV
  rw[F k C,n]at S;intro m;apply S;show As t.c.num.natAbs=[];rw[m];exact BL
 .obtain ⟨k,C,e⟩:=YcI M
  have S:=(h k (by rw[J];exact C)).1.2.2;have n:BA P k=t:=by unfold BA;exact ZgV
  rw[F k C,n]at S;exact S
structure WZ(l:List Nat):Prop where
 s:BM l
 n:l.length<=10000
structure QZ(q:RQ):Prop where
 n:WZ q.l
 d:WZ q.l'
structure TZ(t:RTm):Prop where
 n:WZ t.l
 d:WZ t.l'
structure PZ(p:List RTm):Prop where
 t:∀r∈p,TZ r
 n:p.length<=40000
structure LZ{α:Type}(D:α->Prop)(l:List α):Prop where
 e:∀x∈l,D x
 n:l.length<=40000
theorem PZ.rt{p:List RTm}(h:PZ p):Ab5 p:=λr X=>⟨(h.t r X).n.s,(h.t r X).d.s,by have:=(h.t r X).n.n;omega,by have:=(h.t r X).d.n;omega⟩
theorem PZ.sz(h:PZ uB)(r:HX uB):PSz (Mk uB) 10000:=λt M=>by
 obtain⟨A,_,_⟩:=UL r;have x:EC t∈uB:=by rw[A];exact YbY M
 have B:=h.t _ x;exact⟨B.n.n,B.d.n⟩
theorem PZ.len{p:List RTm}(h:PZ p):(Mk p).length<=40000:=by rw[ZI];exact h.n
def UH(n d:Int)(p:List RTm):Prop:=HX p/\Ov (Mk p)<2^n.toNat/\HV (Mk p)<=d
theorem A7f{P:List Tm}(A:PSz P n)(I:Canon P):PSz (DX P) (1+P.length*n+n):=by
 by_cases c:P.length=0
 .unfold DX
  rw[Yan c];intro t M;cases M
 .unfold DX
  rw[Yai c];exact UO (Ns P A I ZbD) A
def pAt(l:List (List RTm))(k:Nat):List RTm:=l.getD k default
def EqP(n y:Int)(p:List RTm):Prop:=UH n 12 p/\y<=HV (Mk p)/\CW (DX (Mk p)) (Mk p)=0
def Mw(n y:Int)(l:List (List RTm)):Prop:=l.length<=12/\∀i,i<l.length->EqP n y (pAt l i)/\(0<i->CW (Mk (pAt l (i-1))) (Mk (pAt l i))<0)
def Og(k:Cor):Prop:=1<=k.n/\k.n<=4/\Mw k.n 0 k.e/\Mw k.n 1 k.f
structure CZ(k:Cor):Prop where
 n:IW k.n
 e:LZ PZ k.e
 f:LZ PZ k.f
theorem A1S{l:List (List RTm)}(h:n<l.length):pAt l n∈l:=BC h
theorem A8j{d:Int}(r:HX uB):UH (n:Int) d uB↔Ov (Mk uB)<2^n/\HV (Mk uB)<=d:=⟨λh=>h.2,λh=>⟨r,h⟩⟩
open Classical in
theorem PQ(m:Nat)(C:1<=m/\m<=4)(e f:List (List RTm))(p:List RTm)(d:Int)(G:PZ p):Abs prog 154 [AP (Eb ⟨(m:Nat),e,f⟩),KD p,ex (.int .i64 d)] (ex (.bool (decide (UH (m:Nat) d p)))):=by
 have R:=G.n;have W:=A18 p G.rt ZbD;by_cases r:HX p
 .rw [Yak r]at W
  obtain⟨A,B,L⟩:=UL r;have q:=G.len;have N:=A8j (n:=m) (d:=d) r;obtain⟨P,M⟩:∃P,P=Mk p:=⟨_,rfl⟩;rw[<-M]at A B L q N;have I:=A3J P ZbD;have K:=Zh P L ZbD;have Y:=UM P;rw[Kf,<-A]at I K;obtain⟨u,J⟩:∃u,u=Ov P:=⟨_,rfl⟩;obtain⟨g,F⟩:∃g,g=HV P:=⟨_,rfl⟩;rw[<-J]at I N Y;rw[<-F]at K N;have V:Min.min m IntKind.i64.bits=m:=Ybu (by show m<=64;omega);obtain⟨x,E⟩:∃x,x=u/2^m:=⟨_,rfl⟩;have X:((u:Nat):Int).fdiv (2^m)=((x:Nat):Int):=by rw[EY rfl,E]
  have Q:x=0↔u<2^m:=by rw[E,Nat.div_eq_zero_iff];have:0<2^m:=Yef ZbH;omega
  by_cases S:u<2^m
  .obtain rfl:=Q.2 S
   by_cases n:g<=d
   .rw [Yak (N.2 ⟨S,n⟩)]
    refine Ab func154 λv=>?_;rw[ntmps154];refine Go ?_;refine Dy 18 ?_;refine DO ?_;exact Zhf
   .rw [Yad λh=>n (N.1 h).2]
    refine Ab func154 λv=>?_;rw[ntmps154];refine Go ?_;refine Dy 18 ?_;refine DO ?_;exact Zhf
  .have O:x≠0:=λe=>S (Q.1 e)
   rw[Yad λh=>S (N.1 h).1];refine Ab func154 λv=>?_;rw[ntmps154];refine Go ?_;refine Dy 18 ?_;refine DO ?_;exact Zhf
 .rw [Yad r]at W
  rw[Yad λh:UH (m:Nat) d p=>r h.1];refine Ab func154 λv=>?_;rw[ntmps154];refine Go ?_;refine Dy 18 ?_;exact ZgY
def A1e(n y:Int)(l:List (List RTm))(i:Nat):Prop:=EqP n y (pAt l i)/\(0<i->CW (Mk (pAt l (i-1))) (Mk (pAt l i))<0)
open Classical in
theorem Rh(m:Nat)(x:1<=m/\m<=4)(e f l:List (List RTm))(y:Int)(o:LZ PZ l):Abs prog 152 [AP (Eb ⟨(m:Nat),e,f⟩),Ib l,ex (.int .i64 y)] (ex (.bool (decide (Mw (m:Nat) y l)))):=by
 have xh:=o.n;by_cases N:l.length<=12
 .refine Ab func152 λv=>?_
  rw[ntmps152];refine Go ?_;refine AC (λu d=>∃k,k<=l.length/\u=l.length-k/\(∀j,j<k->A1e (m:Nat) y l j)/\d=⟨[(1,.d (Ib l)),(2,.d (ex (.int .i64 y))),(3,.ptr 0 0),(12,.d (Ib l)),(13,.d (ex (.int .i64 (l.length:Nat)))),(14,.d (ex (.int .i64 (k:Nat))))],[.var 139 ((Eb ⟨(m:Nat),e,f⟩).map .d)]⟩) ?le ⟨0,by omega,rfl,λj a=>absurd a (Ybh j),rfl⟩ ?round
  case le=>exact Ac ZdT ZcA
  case round=>
   rintro u _ ⟨k,C,rfl,w,rfl⟩;by_cases E:k<l.length
   .have G:PZ (pAt l k):=o.e _ (A1S E)
    have H:=G.n;obtain⟨p,c⟩:∃p,p=pAt l k:=⟨_,rfl⟩;have X:=λh:Mw (m:Nat) y l=>h.2 k E;rw[<-c]at G H X;have W:=PQ m x e f p 12 G;by_cases F:UH (m:Nat) 12 p
    .rw [Yak F]at W
     obtain⟨A,B,L⟩:=UL F.1;have N:=G.len;have t:=G.sz F.1;obtain⟨P,M⟩:∃P,P=Mk p:=⟨_,rfl⟩
     have V:EqP (m:Nat) y p↔y<=HV P/\CW (DX P) P=0:=by
      rw[M];exact⟨λh=>h.2,λh=>⟨F,h⟩⟩
     rw[<-M]at A B L N t X;have xa:P.length*10000<=400000000:=YaB 10000 N;have cD:=Zh P L ZbD;have i:=A1a P 10000 t B L ZbD ZbD;have r:=UC (DX P) P ((A7f t B).mono ZbD) (t.mono ZbD) (by rw[Nr];omega) ZbD;rw[Kf P,<-A]at cD i r;obtain⟨g,J⟩:∃g,g=HV P:=⟨_,rfl⟩;rw[<-J]at cD V;have xg:=c;subst c;by_cases S:y<=g
     .by_cases n:CW (DX P) P=0
      .rw [Yak n]at r
       by_cases Z:k=0
       .have xb:∀j,j<k+1->A1e (m:Nat) y l j:=λj a=>by
         obtain rfl:j=k:=by omega
         exact⟨V.2 ⟨S,n⟩,λh=>absurd h ZbD⟩
        obtain rfl:=Z;refine Go ?_;refine Ah (l.length-(0+1)) ZbD ⟨0+1,by omega,rfl,xb,rfl⟩ ?_;exact Ac ZdT ZcA
       .have I:PZ (pAt l (k-1)):=o.e _ (A1S ZbD)
        have s:=(w (k-1) ZbD).1.1;obtain⟨b,R,Y⟩:=UL s.1;have xf:=I.len;have xd:=I.sz s.1;obtain⟨q,xc⟩:∃q,q=pAt l (k-1):=⟨_,rfl⟩;rw[<-xc]at I b R Y xf xd;obtain⟨Q,O⟩:∃Q,Q=Mk q:=⟨_,rfl⟩;rw[<-O]at b R Y xf xd;have U:=A6o Q P (xd.mono ZbD) (t.mono ZbD) ZbD ZbD;rw[Kf P,<-A,Kf Q,<-b]at U;obtain⟨z,T⟩:∃z,z=CW Q P:=⟨_,rfl⟩;rw[<-T]at U;have xe:=xc;subst xc;by_cases K:z<0
        .have xb:∀j,j<k+1->A1e (m:Nat) y l j:=λj a=>by
          rcases YaG j k with a | a
          .exact w j a
          .obtain rfl:j=k:=by omega
           exact⟨V.2 ⟨S,n⟩,λ_=>by rw[<-xe,<-M,<-O,<-T];exact K⟩
         apply Y1;refine Wq Bb ?_;refine Y0<|Ai<|Ct<|Ys<|Ai<|AWp.block<|Y1<|Wm ?_;refine Wq Dq ?_;refine Wq AT ?_;refine Wa<|Wa<|Y0<|Ai<|Y1 ?_;refine Wq AH ?_;refine Wm ?_;refine Wq (AK (W)) ?_;refine Wq GR ?_;refine Wm ?_;refine Wg AQ ?_;refine Wg (AK (cD)) ?_;refine Wg AQ ?_;refine Wg AN ?_;refine Wq BT ?_;refine Y0<|Cf<|Ys<|Ai<|Y1<|Wm ?_;refine Wq (AK (i)) ?_;refine Wm ?_;refine Wq (AK (r)) ?_;refine Wq GR ?_;refine Y0<|Cf<|Ys<|Y1<|Wm ?_;refine Wq Bb ?_;refine Wm ?_;refine Wg AQ ?_;refine Wg AQ ?_;refine Wg (Jj (ao rfl) (ao rfl) ZbD ZbD) ?_;refine Wg Dq ?_;refine Wg AT ?_;refine Wg AQ ?_;refine Wg (AK (U)) ?_;refine Wg AN ?_;refine Wq Cz ?_;refine Y0<|Cf<|GW<|Bh<|Yn<|AWp.region ?_;refine Wq CJ ?_;refine Wm<|AWl.nil ?_
         refine Ah (l.length-(k+1)) ZbD ⟨k+1,by omega,rfl,xb,rfl⟩ ?_;exact Ac ZdT ZcA
        .rw [Yad λh=>K (by have:=(X h).2 ZbD; rw [<-xe, <-O, <-T] at this; exact this)]
         apply Y1;refine Wq Bb ?_;refine Y0<|Ai<|Ct<|Ys<|Ai<|AWp.block<|Y1<|Wm ?_;refine Wq Dq ?_;refine Wq AT ?_;refine Wa<|Wa<|Y0<|Ai<|Y1 ?_;refine Wq AH ?_;refine Wm ?_;refine Wq (AK (W)) ?_;refine Wq GR ?_;refine Wm ?_;refine Wg AQ ?_;refine Wg (AK (cD)) ?_;refine Wg AQ ?_;refine Wg AN ?_;refine Wq BT ?_;refine Y0<|Cf<|Ys<|Ai<|Y1<|Wm ?_;refine Wq (AK (i)) ?_;refine Wm ?_;refine Wq (AK (r)) ?_;refine Wq GR ?_;refine Y0<|Cf<|Ys<|Y1<|Wm ?_;refine Wq Bb ?_;refine Wm ?_;refine Wg AQ ?_;refine Wg AQ ?_;refine Wg (Jj (ao rfl) (ao rfl) ZbD ZbD) ?_;refine Wg Dq ?_;refine Wg AT ?_;refine Wg AQ ?_;refine Wg (AK (U)) ?_;refine Wg Bb ?_;refine Wq Cz ?_;refine Y0<|Ct<|Y1<|Wa<|Y0<|BV<|DU<|Ds<|It<|DU<|Ds ?_
         exact Yf
      .rw [Yad n]at r
       rw[Yad λh=>n (V.1 (X h).1).2];exact Zfu
     .rw [Yad λh=>S (V.1 (X h).1).1]
      exact Zfu
    .rw [Yad F]at W
     subst c;rw[Yad λh=>F (X h).1.1];exact Zfu
   .obtain rfl:k=l.length:=by omega
    rw[Yak (show Mw (m:Nat) y l from⟨N,w⟩)];exact Zfu
 .rw [Yad λh:Mw (m:Nat) y l=>N h.1]
  refine Ab func152 λv=>?_;rw[ntmps152];exact Zfu
open Classical
theorem Abz{P:(List RTm)->Prop}{F:D}(T:TypeId)(L:List (List RTm))(hF:∀x∈L,FnAbs prog F [KD x] (ex (.bool (decide (P x)))))(f:L.length<=40000):Abs prog 300 [slD T 1 (L.map λp=>[KD p]),F] (ex (.bool (decide (∀x∈L,P x)))):=by
 refine Ab func300 λv=>?_;rw[ntmps300];refine Go ?_;refine AC (λu d=>∃k,k<=L.length/\u=L.length-k/\(∀j,j<k->P (L.getD j default))/\d=⟨[(1,.d F),(7,.d (slD T 1 (L.map λp=>[KD p]))),(8,.d (ex (.int .i64 (L.length:Nat)))),(9,.d (ex (.int .i64 (k:Nat))))],[]⟩) ?le ⟨0,by omega,rfl,λj a=>absurd a (Ybh j),rfl⟩ ?round
 case le=>exact ZjP
 case round=>
  exact Zbk
theorem Aby{P:(List (List RTm))->Prop}{F:D}(T:TypeId)(L:List (List (List RTm)))(hF:∀x∈L,FnAbs prog F [Ib x] (ex (.bool (decide (P x)))))(f:L.length<=40000):Abs prog 255 [slD T 1 (L.map λp=>[Ib p]),F] (ex (.bool (decide (∀x∈L,P x)))):=by
 refine Ab func255 λv=>?_;rw[ntmps255];refine Go ?_;refine AC (λu d=>∃k,k<=L.length/\u=L.length-k/\(∀j,j<k->P (L.getD j default))/\d=⟨[(1,.d F),(7,.d (slD T 1 (L.map λp=>[Ib p]))),(8,.d (ex (.int .i64 (L.length:Nat)))),(9,.d (ex (.int .i64 (k:Nat))))],[]⟩) ?le ⟨0,by omega,rfl,λj a=>absurd a (Ybh j),rfl⟩ ?round
 case le=>exact ZjP
 case round=>
  exact Zbk
theorem A8M{P:(List RQ)->Prop}{F:D}(T:TypeId)(L:List (List RQ))(hF:∀x∈L,FnAbs prog F [GY x] (ex (.bool (decide (P x)))))(f:L.length<=40000):Abs prog 253 [slD T 1 (L.map λp=>[GY p]),F] (ex (.bool (decide (∀x∈L,P x)))):=by
 refine Ab func253 λv=>?_;rw[ntmps253];refine Go ?_;refine AC (λu d=>∃k,k<=L.length/\u=L.length-k/\(∀j,j<k->P (L.getD j default))/\d=⟨[(1,.d F),(7,.d (slD T 1 (L.map λp=>[GY p]))),(8,.d (ex (.int .i64 (L.length:Nat)))),(9,.d (ex (.int .i64 (k:Nat))))],[]⟩) ?le ⟨0,by omega,rfl,λj a=>absurd a (Ybh j),rfl⟩ ?round
 case le=>exact ZjP
 case round=>
  exact Zbk
theorem AbB{P:(Int)->Prop}{F:D}(T:TypeId)(L:List (Int))(hF:∀x∈L,FnAbs prog F [ex (.int .i64 x)] (ex (.bool (decide (P x)))))(f:L.length<=40000):Abs prog 159 [slD T 1 (L.map λz=>[ex (.int .i64 z)]),F] (ex (.bool (decide (∀x∈L,P x)))):=by
 refine Ab func159 λv=>?_;rw[ntmps159];refine Go ?_;refine AC (λu d=>∃k,k<=L.length/\u=L.length-k/\(∀j,j<k->P (L.getD j default))/\d=⟨[(1,.d F),(7,.d (slD T 1 (L.map λz=>[ex (.int .i64 z)]))),(8,.d (ex (.int .i64 (L.length:Nat)))),(9,.d (ex (.int .i64 (k:Nat))))],[]⟩) ?le ⟨0,by omega,rfl,λj a=>absurd a (Ybh j),rfl⟩ ?round
 case le=>exact ZjP
 case round=>
  exact Zbk
theorem Abw{P:(RQ)->Prop}{F:D}(T:TypeId)(L:List (RQ))(hF:∀x∈L,FnAbs prog F [AP (Hh x)] (ex (.bool (decide (P x)))))(f:L.length<=40000):Abs prog 304 [slD T 4 (L.map Hh),F] (ex (.bool (decide (∀x∈L,P x)))):=by
 refine Ab func304 λv=>?_;rw[ntmps304];refine Go ?_;refine AC (λu d=>∃k,k<=L.length/\u=L.length-k/\(∀j,j<k->P (L.getD j default))/\d=⟨[(1,.d F),(7,.d (slD T 4 (L.map Hh))),(8,.d (ex (.int .i64 (L.length:Nat)))),(9,.d (ex (.int .i64 (k:Nat))))],[]⟩) ?le ⟨0,by omega,rfl,λj a=>absurd a (Ybh j),rfl⟩ ?round
 case le=>exact ZjP
 case round=>
  exact Zbk
theorem AbA{P:(RQ×RQ)->Prop}{F:D}(T:TypeId)(L:List (RQ×RQ))(hF:∀x∈L,FnAbs prog F [AP (Jf x)] (ex (.bool (decide (P x)))))(f:L.length<=40000):Abs prog 169 [slD T 8 (L.map Jf),F] (ex (.bool (decide (∀x∈L,P x)))):=by
 refine Ab func169 λv=>?_;rw[ntmps169];refine Go ?_;refine AC (λu d=>∃k,k<=L.length/\u=L.length-k/\(∀j,j<k->P (L.getD j default))/\d=⟨[(1,.d F),(7,.d (slD T 8 (L.map Jf))),(8,.d (ex (.int .i64 (L.length:Nat)))),(9,.d (ex (.int .i64 (k:Nat))))],[]⟩) ?le ⟨0,by omega,rfl,λj a=>absurd a (Ybh j),rfl⟩ ?round
 case le=>exact ZjP
 case round=>
  exact Zbk
theorem Abv{P:(RQ×List RTm)->Prop}{F:D}(T:TypeId)(L:List (RQ×List RTm))(hF:∀x∈L,FnAbs prog F [AP (Jq x)] (ex (.bool (decide (P x)))))(f:L.length<=40000):Abs prog 172 [slD T 5 (L.map Jq),F] (ex (.bool (decide (∀x∈L,P x)))):=by
 refine Ab func172 λv=>?_;rw[ntmps172];refine Go ?_;refine AC (λu d=>∃k,k<=L.length/\u=L.length-k/\(∀j,j<k->P (L.getD j default))/\d=⟨[(1,.d F),(7,.d (slD T 5 (L.map Jq))),(8,.d (ex (.int .i64 (L.length:Nat)))),(9,.d (ex (.int .i64 (k:Nat))))],[]⟩) ?le ⟨0,by omega,rfl,λj a=>absurd a (Ybh j),rfl⟩ ?round
 case le=>exact ZjP
 case round=>
  exact Zbk
theorem Abx{P:(Nat->RQ)->Prop}{F:D}(T:TypeId)(L:List (Nat->RQ))(hF:∀x∈L,FnAbs prog F [AP (Mm x)] (ex (.bool (decide (P x)))))(f:L.length<=40000):Abs prog 175 [slD T 32 (L.map Mm),F] (ex (.bool (decide (∀x∈L,P x)))):=by
 refine Ab func175 λv=>?_;rw[ntmps175];refine Go ?_;refine AC (λu d=>∃k,k<=L.length/\u=L.length-k/\(∀j,j<k->P (L.getD j default))/\d=⟨[(1,.d F),(7,.d (slD T 32 (L.map Mm))),(8,.d (ex (.int .i64 (L.length:Nat)))),(9,.d (ex (.int .i64 (k:Nat))))],[]⟩) ?le ⟨0,by omega,rfl,λj a=>absurd a (Ybh j),rfl⟩ ?round
 case le=>exact ZjP
 case round=>
  exact Zbk
theorem AbC{P:(Nat->RQ×RQ)->Prop}{F:D}(T:TypeId)(L:List (Nat->RQ×RQ))(hF:∀x∈L,FnAbs prog F [AP (Dv x)] (ex (.bool (decide (P x)))))(f:L.length<=40000):Abs prog 247 [slD T 64 (L.map Dv),F] (ex (.bool (decide (∀x∈L,P x)))):=by
 refine Ab func247 λv=>?_;rw[ntmps247];refine Go ?_;refine AC (λu d=>∃k,k<=L.length/\u=L.length-k/\(∀j,j<k->P (L.getD j default))/\d=⟨[(1,.d F),(7,.d (slD T 64 (L.map Dv))),(8,.d (ex (.int .i64 (L.length:Nat)))),(9,.d (ex (.int .i64 (k:Nat))))],[]⟩) ?le ⟨0,by omega,rfl,λj a=>absurd a (Ybh j),rfl⟩ ?round
 case le=>exact ZjP
 case round=>
  exact Zbk
def QV(q:RQ):Prop:=QOk q.b q.l q.b' q.l'
noncomputable def Oj (q:RQ):Rat:=(toT ⟨q.b,q.l,q.b',q.l',λ_=>0⟩).c
theorem ZJ(h:QV xh):DA (Oj xh)=Hh xh:=by
 have A:=A08 (r:=⟨xh.b,xh.l,xh.b',xh.l',λ_=>0⟩) h;unfold Oj;obtain⟨t,M⟩:∃t,t=toT ⟨xh.b,xh.l,xh.b',xh.l',λ_=>0⟩:=⟨_,rfl⟩;rw[<-M]at A ⊢;have Z:=congrArg RTm.b A;have s:=congrArg RTm.l A;have H:=congrArg RTm.b' A;have K:=congrArg RTm.l' A;simp only[EC]at Z s H K;rw[Hh,A4S,<-Z,<-s,<-H,<-K];rfl
def LJ(q:Rat):RQ:=⟨decide (q.num<0),As q.num.natAbs,decide ((q.den:Int)<0),As (q.den:Int).natAbs⟩
theorem Oc(q:Rat):QV (LJ q):=⟨q,rfl,rfl,rfl,rfl⟩
theorem Ox(q:Rat):Oj (LJ q)=q:=congrArg Tm.c (A4p ⟨q,λ_=>0⟩)
theorem QZ.sz(o:QZ xh)(h:QV xh):RSz (Oj xh) 10000:=by
 have A:=A08 (r:=⟨xh.b,xh.l,xh.b',xh.l',λ_=>0⟩) h;have s:=congrArg RTm.l A;have K:=congrArg RTm.l' A;simp only[EC]at s K;exact⟨by show(As _).length<=_;rw[show As (Oj xh).num.natAbs=xh.l from s];exact o.n.n,by show(As _).length<=_;rw[show As (Oj xh).den=xh.l' from K];exact o.d.n⟩
theorem Hj(q:RQ)(o:QZ q):Abs prog 251 [AP (Hh q)] (ex (.bool (decide (QV q)))):=
 Rr q.b q.l q.b' q.l' o.n.s o.d.s (by have:=o.n.n;omega) (by have:=o.d.n;omega)
theorem OF(q:RQ)(h:QV q):Abs prog 137 [AP (Hh q)] (ex (.int .i64 (Oj q).num.sign)):=by
 have:=EN (Oj q);rwa [ZJ h]at this
def ZeP(q:RQ):Prop:=QV q/\Oj q=0
def IvP(a:RQ×RQ):Prop:=QV a.1/\QV a.2/\IC (Oj a.1) (Oj a.2)<=0
def VZ(a:RQ×RQ):Prop:=QZ a.1/\QZ a.2
theorem RS(q:RQ)(o:QZ q):Abs prog 301 [AP (Hh q)] (ex (.bool (decide (ZeP q)))):=by
 have W:=Hj q o;by_cases h:QV q
 .rw [Yak h]at W
  have L:=OF q h;by_cases c:Oj q=0
  .rw [DH.2 c]at L
   rw[Yak (show ZeP q from⟨h,c⟩)];refine Ab func301 λv=>?_;rw[ntmps301];exact Zfu
  .have Y:(Oj q).num.sign≠0:=λe=>c (DH.1 e)
   rw[Yad λb:ZeP q=>c b.2];refine Ab func301 λv=>?_;rw[ntmps301];exact Zfu
 .rw [Yad h]at W
  rw[Yad λb:ZeP q=>h b.1];refine Ab func301 λv=>?_;rw[ntmps301];exact Zfu
theorem KW(a:RQ×RQ)(o:VZ a):Abs prog 170 [AP (Jf a)] (ex (.bool (decide (IvP a)))):=by
 have W:=Hj a.1 o.1;have A:=Hj a.2 o.2;by_cases h:QV a.1
 .rw [Yak h]at W
  by_cases B:QV a.2
  .rw [Yak B]at A
   have E:=Nn (Oj a.1) (Oj a.2) ((o.1.sz h).mono ZbD) ((o.2.sz B).mono ZbD);rw[ZJ h,ZJ B]at E;obtain⟨z,R⟩:∃z,z=IC (Oj a.1) (Oj a.2):=⟨_,rfl⟩;rw[<-R]at E;by_cases L:z<=0
   .rw [Yak (show IvP a from⟨h,B,R▸L⟩)]
    exact Ziw
   .rw [Yad λb:IvP a=>L (R▸b.2.2)]
    exact Ziw
  .rw [Yad B]at A
   rw[Yad λb:IvP a=>B b.2.1];exact Ziw
 .rw [Yad h]at W
  rw[Yad λb:IvP a=>h b.1];exact Ziw
def SmI(z:Int):Prop:=0<=z/\z<=1000000
def SgP(z:Int):Prop:=-1<=z/\z<=1
theorem XU(z:Int):Abs prog 157 [ex (.int .i64 z)] (ex (.bool (decide (SmI z)))):=by
 by_cases c:0<=z
 .by_cases A:z<=1000000
  .rw [Yak (show SmI z from⟨c,A⟩)]
   refine Ab func157 λv=>?_;rw[ntmps157];exact Zfu
  .rw [Yad λh:SmI z=>A h.2]
   refine Ab func157 λv=>?_;rw[ntmps157];exact Zfu
 .rw [Yad λh:SmI z=>c h.1]
  refine Ab func157 λv=>?_;rw[ntmps157];exact Zfu
theorem A0l(z:Int):Abs prog 160 [ex (.int .i64 z)] (ex (.bool (decide (SgP z)))):=by
 by_cases c:-1<=z
 .by_cases A:z<=1
  .rw [Yak (show SgP z from⟨c,A⟩)]
   refine Ab func160 λv=>?_;rw[ntmps160];exact Zfu
  .rw [Yad λh:SgP z=>A h.2]
   refine Ab func160 λv=>?_;rw[ntmps160];exact Zfu
 .rw [Yad λh:SgP z=>c h.1]
  refine Ab func160 λv=>?_;rw[ntmps160];exact Zfu
def ShP(l:List RQ):Prop:=l.length<=65/\(∀q∈l,QV q)/\(l.length=0\/Oj (l.getD (l.length-1) default)≠0)
theorem PI(l:List RQ)(T:TypeId)(o:LZ QZ l):Abs prog 252 [slD T 4 (l.map Hh)] (ex (.bool (decide (ShP l)))):=by
 have f:=o.n;by_cases c:l.length<=65
 .have W:=Abw (P:=QV) (F:=ex (.func (.func 251) #[] #[])) T l (λx E=>FnAbs.ex (Hj x (o.e x E))) f
  by_cases A:∀q∈l,QV q
  .rw [Yak A]at W
   by_cases B:l.length=0
   .rw [Yak (show ShP l from⟨c,A,.inl B⟩)]
    refine Ab func252 λv=>?_;rw[ntmps252];exact Zfu
   .have C:=A _ (BC (l:=l) (k:=l.length-1) ZbD)
    have F:=OF _ C;by_cases L:Oj (l.getD (l.length-1) default)=0
    .rw [DH.2 L]at F
     rw[Yad λh:ShP l=>h.2.2.elim B λh=>h L];refine Ab func252 λv=>?_;rw[ntmps252];refine Y1<|Wa<|Y0<|Y1<|Wm ?_;refine Wq BK ?_;refine Wa<|Y0<|Y1<|Wm ?_;refine Wq A2l ?_;refine Wq Bb ?_;refine Wm ?_;refine Wg AQ ?_;refine Wg (AK (W)) ?_;refine Wq Cz ?_;refine Wm ?_;refine Wg AQ ?_;refine Wg AN ?_;refine Wg AQ ?_;refine Wg AQ ?_;refine Wg AQ ?_;refine Wg (Jj (ao rfl) (ao rfl) ZbD ZbD) ?_;refine Wg Dq ?_;refine Wg Ca ?_;refine Wg (AK (F)) ?_;refine Wg AN ?_;refine Wg BT ?_;refine Wq Cz ?_;refine Wa<|Y0<|BV ?_
     exact Yf
    .have Y:(Oj (l.getD (l.length-1) default)).num.sign≠0:=λe=>L (DH.1 e)
     rw[Yak (show ShP l from⟨c,A,.inr L⟩)];refine Ab func252 λv=>?_;rw[ntmps252];refine Y1<|Wa<|Y0<|Y1<|Wm ?_;refine Wq BK ?_;refine Wa<|Y0<|Y1<|Wm ?_;refine Wq A2l ?_;refine Wq Bb ?_;refine Wm ?_;refine Wg AQ ?_;refine Wg (AK (W)) ?_;refine Wq Cz ?_;refine Wm ?_;refine Wg AQ ?_;refine Wg AN ?_;refine Wg AQ ?_;refine Wg AQ ?_;refine Wg AQ ?_;refine Wg (Jj (ao rfl) (ao rfl) ZbD ZbD) ?_;refine Wg Dq ?_;refine Wg Ca ?_;refine Wg (AK (F)) ?_;refine Wg Bb ?_;refine Wg BT ?_;refine Wq Cz ?_;refine Wa<|Y0<|BV ?_
     exact Yf
  .rw [Yad A]at W
   rw[Yad λh:ShP l=>A h.2.1];refine Ab func252 λv=>?_;rw[ntmps252];exact Zfu
 .rw [Yad λh:ShP l=>c h.1]
  refine Ab func252 λv=>?_;rw[ntmps252];exact Zfu
theorem Ou(k:Cor)(o:CZ k):Abs prog 76 [AP (Eb k)] (ex (.bool (decide (Og k)))):=by
 obtain⟨n,e,f⟩:=k;by_cases A:1<=n
 .by_cases S:n<=4
  .obtain ⟨m, rfl⟩:∃m:Nat, n=(m:Int):=⟨n.toNat, by omega⟩
   have W:=Rh m ⟨by omega,by omega⟩ e f e 0 o.e;have L:=Rh m ⟨by omega,by omega⟩ e f f 1 o.f;by_cases Y:Mw (m:Nat) 0 e
   .rw [Yak Y]at W
    by_cases M:Mw (m:Nat) 1 f
    .rw [Yak M]at L
     rw[Yak (show Og ⟨(m:Nat),e,f⟩from⟨A,S,Y,M⟩)];exact ZhP
    .rw [Yad M]at L
     rw[Yad λh:Og ⟨(m:Nat),e,f⟩=>M h.2.2.2];exact ZhP
   .rw [Yad Y]at W
    rw[Yad λh:Og ⟨(m:Nat),e,f⟩=>Y h.2.2.1];exact ZhP
  .rw [Yad λh:Og ⟨n,e,f⟩=>S h.2.1]
   exact ZhP
 .rw [Yad λh:Og ⟨n,e,f⟩=>A h.1]
  exact ZhP
theorem Pb(k:Cor)(o:CZ k):Abs prog 32 [AP (Eb k)] (ex (.bool (decide (Og k)))):=by
 refine Ab func32 λv=>?_;rw[ntmps32];have w:=Ou k o;exact Zfu
def NV(k:Cor):Prop:=1<=k.n/\k.n<=4
theorem VU(k:Cor)(C:NV k)(p:List RTm)(d:Int)(G:PZ p):Abs prog 154 [AP (Eb k),KD p,ex (.int .i64 d)] (ex (.bool (decide (UH k.n d p)))):=by
 obtain⟨n,e,f⟩:=k;obtain⟨m,rfl⟩:∃m:Nat,n=(m:Int):=⟨n.toNat,by have:=C.1;have:1<=n:=this;omega⟩;exact PQ m ⟨by have:=C.1;have:1<=((m:Nat):Int):=this;omega,by have:=C.2;have:((m:Nat):Int)<=4:=this;omega⟩ e f p d G
theorem A24(k:Cor)(C:NV k)(p:List RTm)(G:PZ p):Abs prog 254 [AP (Eb k),KD p] (ex (.bool (decide (UH k.n 64 p)))):=by
 refine Ab func254 λv=>?_;rw[ntmps254];have o:=VU k C p 64 G;exact Zfu
def My(n:Int)(l:List (List RTm)):Prop:=∀p∈l,UH n 64 p
theorem Sa(k:Cor)(C:NV k)(l:List (List RTm))(o:LZ PZ l):Abs prog 246 [AP (Eb k),Ib l] (ex (.bool (decide (My k.n l)))):=by
 have W:=Abz (P:=UH k.n 64) (F:=fvD 254 [AP (Eb k)] []) 28 l (λx E=>Lx (A24 k C x (o.e x E))) o.n;refine Ab func246 λv=>?_;rw[ntmps246];refine Go ?_;refine Wq (Ls Zcq Zds) ?_;refine Go ?_;exact AA (Am (ResV.tmp rfl rfl) (Ae (congrArg (λb=>ex (.bool b)) (YcT.2 YdO))))
def Jl(n:Int)(l:List (List RTm)):Prop:=l.length<=64/\My n l
theorem RP(k:Cor)(C:NV k)(l:List (List RTm))(o:LZ PZ l):Abs prog 156 [AP (Eb k),Ib l] (ex (.bool (decide (Jl k.n l)))):=by
 have f:=o.n;have W:=Sa k C l o;by_cases A:l.length<=64
 .by_cases B:My k.n l
  .rw [Yak B]at W
   rw[Yak (show Jl k.n l from⟨A,B⟩)];refine Ab func156 λv=>?_;rw[ntmps156];exact Zfu
  .rw [Yad B]at W
   rw[Yad λh:Jl k.n l=>B h.2];refine Ab func156 λv=>?_;rw[ntmps156];exact Zfu
 .rw [Yad λh:Jl k.n l=>A h.1]
  refine Ab func156 λv=>?_;rw[ntmps156];exact Zfu
def A0D(n:Int)(c:Int)(l:List (List RTm)):Prop:=(l.length:Int)=c/\My n l
def Jx(n:Int)(r c:Int)(t:List (List (List RTm))):Prop:=(t.length:Int)=r/\∀l∈t,A0D n c l
theorem A75(k:Cor)(C:NV k)(c:Int)(l:List (List RTm))(o:LZ PZ l):Abs prog 256 [Ib l,Fg 3 [ex (.int .i64 c)],Fg 139 (Eb k)] (ex (.bool (decide (A0D k.n c l)))):=by
 have f:=o.n;have W:=Sa k C l o;by_cases A:(l.length:Int)=c
 .subst A
  by_cases B:My k.n l
  .rw [Yak B]at W
   rw[Yak (show A0D k.n (l.length:Nat) l from⟨rfl,B⟩)];refine Ab func256 λv=>?_;rw[ntmps256];exact Zfu
  .rw [Yad B]at W
   rw[Yad λh:A0D k.n (l.length:Nat) l=>B h.2];refine Ab func256 λv=>?_;rw[ntmps256];exact Zfu
 .rw [Yad λh:A0D k.n c l=>A h.1]
  refine Ab func256 λv=>?_;rw[ntmps256];exact Zfu
theorem JA(k:Cor)(C:NV k)(r c:Int)(t:List (List (List RTm)))(o:LZ (LZ PZ) t):Abs prog 174 [AP (Eb k),SY t,ex (.int .i64 r),ex (.int .i64 c)] (ex (.bool (decide (Jx k.n r c t)))):=by
 have f:=o.n;have W:=Aby (P:=A0D k.n c) (F:=fvD 256 [] [Fg 3 [ex (.int .i64 c)],Fg 139 (Eb k)]) 24 t (λx E=>Lx (A75 k C c x (o.e x E))) o.n;by_cases A:(t.length:Int)=r
 .subst A
  by_cases B:∀l∈t,A0D k.n c l
  .rw [Yak B]at W
   rw[Yak (show Jx k.n (t.length:Nat) c t from⟨rfl,B⟩)];refine Ab func174 λv=>?_;rw[ntmps174];apply Y1;refine Bx ?_;refine WP (ao rfl) rfl rfl rfl rfl rfl ?_;refine Wa<|Y0 ?_;refine CL 0 4 rfl rfl rfl ?_;refine CL (ds:=[_]) 1 7 rfl rfl rfl ?_;refine Y1<|Wm ?_;refine Wq BK ?_;refine Wm ?_;refine Wq Bb ?_;refine Wm ?_;refine Wg AQ ?_;refine Wg (Ls Zds ZdS) ?_;refine Wg (AK (W)) ?_;refine Wq Cz ?_;refine Wa<|Y0<|BV ?_
   exact Yf
  .rw [Yad B]at W
   rw[Yad λh:Jx k.n (t.length:Nat) c t=>B h.2];refine Ab func174 λv=>?_;rw[ntmps174];apply Y1;refine Bx ?_;refine WP (ao rfl) rfl rfl rfl rfl rfl ?_;refine Wa<|Y0 ?_;refine CL 0 4 rfl rfl rfl ?_;refine CL (ds:=[_]) 1 7 rfl rfl rfl ?_;refine Y1<|Wm ?_;refine Wq BK ?_;refine Wm ?_;refine Wq Bb ?_;refine Wm ?_;refine Wg AQ ?_;refine Wg (Ls Zds ZdS) ?_;refine Wg (AK (W)) ?_;refine Wq Cz ?_;refine Wa<|Y0<|BV ?_
   exact Yf
 .rw [Yad λh:Jx k.n r c t=>A h.1]
  refine Ab func174 λv=>?_;rw[ntmps174];exact Zfu
def SqP(n:Int)(s:RQ×List RTm):Prop:=QV s.1/\UH n 64 s.2
def SZ(s:RQ×List RTm):Prop:=QZ s.1/\PZ s.2
theorem ZN(k:Cor)(C:NV k)(s:RQ×List RTm)(o:SZ s):Abs prog 173 [AP (Eb k),AP (Jq s)] (ex (.bool (decide (SqP k.n s)))):=by
 have W:=Hj s.1 o.1;have L:=A24 k C s.2 o.2;by_cases A:QV s.1
 .rw [Yak A]at W
  by_cases B:UH k.n 64 s.2
  .rw [Yak B]at L
   rw[Yak (show SqP k.n s from⟨A,B⟩)];refine Ab func173 λv=>?_;rw[ntmps173];exact Zfu
  .rw [Yad B]at L
   rw[Yad λh:SqP k.n s=>B h.2];refine Ab func173 λv=>?_;rw[ntmps173];exact Zfu
 .rw [Yad A]at W
  rw[Yad λh:SqP k.n s=>A h.1];refine Ab func173 λv=>?_;rw[ntmps173];exact Zfu
def A6F(n:Int)(f:Nat->RQ×RQ)(i:Nat):Prop:=((i:Int)<n->IvP (f i))/\(n<=(i:Int)->ZeP (f i).1/\ZeP (f i).2)
def BxP(n:Int)(f:Nat->RQ×RQ):Prop:=∀i,i<8->A6F n f i
theorem A7Y(k:Cor)(g:Nat->RQ×RQ)(o:Fz VZ g):Abs prog 248 [AP (Eb k),AP (Dv g)] (ex (.bool (decide (BxP k.n g)))):=by
 obtain⟨n,e,f⟩:=k;refine Ab func248 λv=>?_;rw[ntmps248];refine Go ?_;refine AC (λu d=>∃k,k<=8/\u=8-k/\(∀j,j<k->A6F n g j)/\d=⟨[(2,.ptr 0 0),(7,.d (AP (Dv g))),(8,.d (ex (.int .i64 (k:Nat))))],[.var 139 ((Eb ⟨n,e,f⟩).map .d)]⟩) ?le ⟨0,by omega,rfl,λj a=>absurd a (Ybh j),rfl⟩ ?round
 case le=>exact Ac Zcg ZcA
 case round=>
  rintro u _ ⟨k,C,rfl,w,rfl⟩;by_cases Q:k<8
  .have r:=o k Q
   have F:A6F n g k->∀j,j<k+1->A6F n g j:=λh j a=>Zbl
   by_cases G:(k:Int)<n
   .have W:=KW (g k) r
    by_cases A:IvP (g k)
    .rw [Yak A]at W
     have E:=F ⟨λ_=>A,λh=>absurd h ZbD⟩;exact Zji
    .rw [Yad A]at W
     rw[Yad λh:BxP n g=>A ((h k Q).1 G)];exact Zio
   .have W:=RS (g k).1 r.1
    have L:=RS (g k).2 r.2;by_cases A:ZeP (g k).1
    .rw [Yak A]at W
     by_cases B:ZeP (g k).2
     .rw [Yak B]at L
      have E:=F ⟨λh=>absurd h G,λ_=>⟨A,B⟩⟩;exact Zji
     .rw [Yad B]at L
      rw[Yad λh:BxP n g=>B ((h k Q).2 ZbD).2];exact Zio
    .rw [Yad A]at W
     rw[Yad λh:BxP n g=>A ((h k Q).2 ZbD).1];exact Zio
  .obtain rfl:k=8:=by omega
   rw[Yak (show BxP n g from w)];exact Zfu
def SS(n:Int)(l:List (Nat->RQ×RQ)):Prop:=l.length<=64/\∀g∈l,BxP n g
theorem Uq(k:Cor)(l:List (Nat->RQ×RQ))(o:LZ (Fz VZ) l):Abs prog 158 [AP (Eb k),Gb l] (ex (.bool (decide (SS k.n l)))):=by
 have f:=o.n;have W:=AbC (P:=BxP k.n) (F:=fvD 248 [AP (Eb k)] []) 131 l (λx E=>Lx (A7Y k x (o.e x E))) o.n;by_cases A:l.length<=64
 .by_cases B:∀g∈l,BxP k.n g
  .rw [Yak B]at W
   rw[Yak (show SS k.n l from⟨A,B⟩)];refine Ab func158 λv=>?_;rw[ntmps158];refine Go ?_;refine Wg (Ls Zcq Zds) ?_;exact Zfu
  .rw [Yad B]at W
   rw[Yad λh:SS k.n l=>B h.2];refine Ab func158 λv=>?_;rw[ntmps158];refine Go ?_;refine Wg (Ls Zcq Zds) ?_;exact Zfu
 .rw [Yad λh:SS k.n l=>A h.1]
  refine Ab func158 λv=>?_;rw[ntmps158];exact Zfu
def A89(n:Int)(x:Nat->RQ)(i:Nat):Prop:=QV (x i)/\(n<=(i:Int)->Oj (x i)=0)
def PtP(n:Int)(x:Nat->RQ):Prop:=∀i,i<8->A89 n x i
theorem A2M(k:Cor)(x:Nat->RQ)(o:Fz QZ x):Abs prog 176 [AP (Eb k),AP (Mm x)] (ex (.bool (decide (PtP k.n x)))):=by
 obtain⟨n,e,f⟩:=k;refine Ab func176 λv=>?_;rw[ntmps176];refine Go ?_;refine AC (λu d=>∃k,k<=8/\u=8-k/\(∀j,j<k->A89 n x j)/\d=⟨[(2,.ptr 0 0),(7,.d (AP (Mm x))),(8,.d (ex (.int .i64 (k:Nat))))],[.var 139 ((Eb ⟨n,e,f⟩).map .d)]⟩) ?le ⟨0,by omega,rfl,λj a=>absurd a (Ybh j),rfl⟩ ?round
 case le=>exact Ac Zcg ZcA
 case round=>
  rintro u _ ⟨k,C,rfl,w,rfl⟩;by_cases Q:k<8
  .have W:=Hj (x k) (o k Q)
   have F:A89 n x k->∀j,j<k+1->A89 n x j:=λh j a=>Zbl
   by_cases A:QV (x k)
   .rw [Yak A]at W
    by_cases G:(k:Int)<n
    .have E:=F ⟨A, λh=>absurd h ZbD⟩
     exact Zji
    .have L:=OF (x k) A
     by_cases B:Oj (x k)=0
     .rw [DH.2 B]at L
      have E:=F ⟨A,λ_=>B⟩;exact Zji
     .have Y:(Oj (x k)).num.sign≠0:=λe=>B (DH.1 e)
      rw[Yad λh:PtP n x=>B ((h k Q).2 ZbD)];exact Zio
   .rw [Yad A]at W
    rw[Yad λh:PtP n x=>A (h k Q).1];exact Zio
  .obtain rfl:k=8:=by omega
   rw[Yak (show PtP n x from w)];exact Zfu
theorem CellAt.up8{f:Nat->List RQ}(h:n<8):CellAt ((up8 f).drop (n*1)) 0 (GY (f n)):=by
 rcases lt8 h with rfl | rfl | rfl | rfl | rfl | rfl | rfl | rfl<;>exact⟨YbR _,rfl⟩
def A60(n:Int)(r:Rsl)(i:Nat):Prop:=-1000000<=r.l i/\r.l i<=1000000/\(n<=(i:Int)->r.l i=0/\(r.r i).length=0)
def Wd(n:Int)(r:Rsl):Prop:=ShP r.q/\(∀i,i<8->ShP (r.r i))/\∀i,i<8->A60 n r i
structure RZ(r:Rsl):Prop where
 l:Fz IW r.l
 q:LZ QZ r.q
 r:Fz (LZ QZ) r.r
theorem A9y{x:e}(h:x∈[xi 0,xi 1,xi 2,xi 3,xi 4,xi 5,xi 6,xi 7]):∃i,i<8/\x=xi i:=by
 simp only[YaK,YeA,or_false]at h;rcases h with h | h | h | h | h | h | h | h
 .exact ⟨0,by omega,h⟩
 .exact ⟨1,by omega,h⟩
 .exact ⟨2,by omega,h⟩
 .exact ⟨3,by omega,h⟩
 .exact ⟨4,by omega,h⟩
 .exact ⟨5,by omega,h⟩
 .exact ⟨6,by omega,h⟩
 .exact ⟨7,by omega,h⟩
theorem A8C(h:n<8):xi n∈[xi 0,xi 1,xi 2,xi 3,xi 4,xi 5,xi 6,xi 7]:=by
 match n,h with
 |0,_ |1,_ |2,_ |3,_ |4,_ |5,_ |6,_ |7,_=>simp
theorem Ti(k:Cor)(r:Rsl)(o:RZ r):Abs prog 171 [AP (Eb k),AP (Ro r)] (ex (.bool (decide (Wd k.n r)))):=by
 obtain⟨n,e,f⟩:=k;have W:=PI r.q 111 o.q;by_cases A:ShP r.q
 .rw [Yak A]at W
  have L:=A8M (P:=ShP) (F:=ex (.func (.func 252) #[] #[])) 41 [r.r 0,r.r 1,r.r 2,r.r 3,r.r 4,r.r 5,r.r 6,r.r 7] (λx E=>by
   obtain⟨i,K,rfl⟩:=A9y E;exact FnAbs.ex (PI (r.r i) 111 (o.r i K))) ZbS
  by_cases B:∀l∈[r.r 0,r.r 1,r.r 2,r.r 3,r.r 4,r.r 5,r.r 6,r.r 7],ShP l
  .rw [Yak B]at L
   have N:∀i,i<8->ShP (r.r i):=λi K=>B _ (A8C K);refine Ab func171 λv=>?_;rw[ntmps171];apply Y1;refine Bx ?_;refine Bx ?_;refine Wa<|Y0 ?_;refine CL 1 3 rfl rfl rfl ?_;refine Ai<|Y1 ?_;refine Wq AE ?_;refine Wq AT ?_;refine Wq (AK (W)) ?_;refine Wq GR ?_;refine Wm ?_;refine Wg AE ?_;refine Wg (A0X (ao rfl) (Aa rfl) (Aa rfl) rfl ZbD) ?_;refine Wg (AK (L)) ?_;refine Wg GR ?_;refine Wq BT ?_;refine Y0<|Cf<|Ys<|Ai<|Y1 ?_;refine Wq AE ?_;refine Wq Fb ?_;refine Wm<|Y0<|AWp.block ?_
   refine AC (λu d=>∃k,k<=8/\u=8-k/\(∀j,j<k->A60 n r j)/\d=⟨[(2,.ptr 0 0),(3,.d (Fg 41 (Ro r))),(18,.d (AP (CM r.l))),(19,.d (ex (.int .i64 (k:Nat))))],[.var 139 ((Eb ⟨n,e,f⟩).map .d)]⟩) ?le ⟨0,by omega,rfl,λj a=>absurd a (Ybh j),rfl⟩ ?round
   case le=>exact Ac Zdd ZcA
   case round=>
    rintro u _ ⟨k,C,rfl,w,rfl⟩;by_cases Q:k<8
    .have G:A60 n r k->∀j,j<k+1->A60 n r j:=λh j a=>Zbl
     have I:¬A60 n r k->¬Wd n r:=λh b=>h (b.2.2 k Q);by_cases U:-1000000<=r.l k
     .by_cases t:r.l k<=1000000
      .by_cases M:(k:Int)<n
       .have F:=G ⟨U, t, λh=>absurd h ZbD⟩
        apply Y1;refine Wq Bb ?_;refine Y0<|Ai<|Ct<|Ys<|Ai<|AWp.block<|Y1<|Wm ?_;refine Wq (Gn (ao rfl) (ao rfl) (Aa rfl) (Aa rfl) rfl Q (CellAt.mon Q)) ?_;refine Wa<|Wa<|Y0<|Y1<|Wm ?_;refine Wq AN ?_;refine Wm ?_;refine Wg AQ ?_;refine Wg AN ?_;refine Wq BT ?_;refine Wm ?_;refine Wg AQ ?_;refine Wg AB ?_;refine Wg AB ?_;refine Wg Ar ?_;refine Wg AN ?_;refine Wg AQ ?_;refine Ws ?_;refine Ws ?_;refine Ws ?_;refine Ws ?_;refine Ws ?_;refine Ws ?_;refine Ws ?_;refine Ws ?_;refine Ws ?_;refine Ws ?_;refine Wg BT ?_;refine Wq BT ?_;refine Y0<|Cf<|GW<|Bh<|Yn<|AWp.region ?_;refine Wq CJ ?_;refine Wm<|AWl.nil ?_
        exact Zia
       .by_cases O:r.l k=0
        .by_cases R:(r.r k).length=0
         .have F:=G ⟨U,t,λ_=>⟨O,R⟩⟩
          apply Y1;refine Wq Bb ?_;refine Y0<|Ai<|Ct<|Ys<|Ai<|AWp.block<|Y1<|Wm ?_;refine Wq (Gn (ao rfl) (ao rfl) (Aa rfl) (Aa rfl) rfl Q (CellAt.mon Q)) ?_;refine Wa<|Wa<|Y0<|Y1<|Wm ?_;refine Wq AN ?_;refine Wm ?_;refine Wg AQ ?_;refine Wg AN ?_;refine Wq BT ?_;refine Wm ?_;refine Wg AQ ?_;refine Wg AB ?_;refine Wg AB ?_;refine Wg Ar ?_;refine Wg Bb ?_;refine Wg AQ ?_;refine Wg AQ ?_;refine Wg AN ?_;refine Wg AQ ?_;refine Wg AQ ?_;refine Wg AE ?_;refine Wg A0M ?_;refine Wg (HL (ao rfl) (Aa rfl) rfl (CellAt.up8 Q)) ?_;refine Wg BK ?_;refine Wg AN ?_;refine Wg BT ?_;refine Wg Cz ?_;refine Wq BT ?_;refine Y0<|Cf<|GW<|Bh<|Yn<|AWp.region ?_;refine Wq CJ ?_;refine Wm<|AWl.nil ?_
          exact Zia
         .rw [Yad (I λh=>R (h.2.2 ZbD).2)]
          apply Y1;refine Wq Bb ?_;refine Y0<|Ai<|Ct<|Ys<|Ai<|AWp.block<|Y1<|Wm ?_;refine Wq (Gn (ao rfl) (ao rfl) (Aa rfl) (Aa rfl) rfl Q (CellAt.mon Q)) ?_;refine Wa<|Wa<|Y0<|Y1<|Wm ?_;refine Wq AN ?_;refine Wm ?_;refine Wg AQ ?_;refine Wg AN ?_;refine Wq BT ?_;refine Wm ?_;refine Wg AQ ?_;refine Wg AB ?_;refine Wg AB ?_;refine Wg Ar ?_;refine Wg Bb ?_;refine Wg AQ ?_;refine Wg AQ ?_;refine Wg AN ?_;refine Wg AQ ?_;refine Wg AQ ?_;refine Wg AE ?_;refine Wg A0M ?_;refine Wg (HL (ao rfl) (Aa rfl) rfl (CellAt.up8 Q)) ?_;refine Wg BK ?_;refine Wg Bb ?_;refine Wg BT ?_;refine Wg Cz ?_;refine Wq BT ?_;refine Y0<|Ct<|Y1<|Wa<|Y0<|BV<|DU<|Ds<|It<|DU<|Ds ?_
          exact Yf
        .rw [Yad (I λh=>O (h.2.2 ZbD).1)]
         apply Y1;refine Wq Bb ?_;refine Y0<|Ai<|Ct<|Ys<|Ai<|AWp.block<|Y1<|Wm ?_;refine Wq (Gn (ao rfl) (ao rfl) (Aa rfl) (Aa rfl) rfl Q (CellAt.mon Q)) ?_;refine Wa<|Wa<|Y0<|Y1<|Wm ?_;refine Wq AN ?_;refine Wm ?_;refine Wg AQ ?_;refine Wg AN ?_;refine Wq BT ?_;refine Wm ?_;refine Wg AQ ?_;refine Wg AB ?_;refine Wg AB ?_;refine Wg Ar ?_;refine Wg Bb ?_;refine Wg AQ ?_;refine Wg AQ ?_;refine Wg Bb ?_;refine Wg AQ ?_;refine Ws ?_;refine Ws ?_;refine Ws ?_;refine Ws ?_;refine Ws ?_;refine Ws ?_;refine Wg Cz ?_;refine Wg Cz ?_;refine Wq BT ?_;refine Y0<|Ct<|Y1<|Wa<|Y0<|BV<|DU<|Ds<|It<|DU<|Ds ?_
         exact Yf
      .rw [Yad (I λh=>t h.2.1)]
       apply Y1;refine Wq Bb ?_;refine Y0<|Ai<|Ct<|Ys<|Ai<|AWp.block<|Y1<|Wm ?_;refine Wq (Gn (ao rfl) (ao rfl) (Aa rfl) (Aa rfl) rfl Q (CellAt.mon Q)) ?_;refine Wa<|Wa<|Y0<|Y1<|Wm ?_;refine Wq AN ?_;refine Wm ?_;refine Wg AQ ?_;refine Wg Bb ?_;refine Wq BT ?_;refine Wm ?_;refine Ws ?_;refine Ws ?_;refine Ws ?_;refine Ws ?_;refine Ws ?_;refine Ws ?_;refine Ws ?_;refine Ws ?_;refine Ws ?_;refine Ws ?_;refine Ws ?_;refine Ws ?_;refine Ws ?_;refine Ws ?_;refine Ws ?_;refine Ws ?_;refine Ws ?_;refine Wq Cz ?_;refine Y0<|Ct<|Y1<|Wa<|Y0<|BV<|DU<|Ds<|It<|DU<|Ds ?_
       exact Yf
     .rw [Yad (I λh=>U h.1)]
      apply Y1;refine Wq Bb ?_;refine Y0<|Ai<|Ct<|Ys<|Ai<|AWp.block<|Y1<|Wm ?_;refine Wq (Gn (ao rfl) (ao rfl) (Aa rfl) (Aa rfl) rfl Q (CellAt.mon Q)) ?_;refine Wa<|Wa<|Y0<|Y1<|Wm ?_;refine Wq Bb ?_;refine Wm ?_;refine Ws ?_;refine Ws ?_;refine Wq Cz ?_;refine Wm ?_;refine Ws ?_;refine Ws ?_;refine Ws ?_;refine Ws ?_;refine Ws ?_;refine Ws ?_;refine Ws ?_;refine Ws ?_;refine Ws ?_;refine Ws ?_;refine Ws ?_;refine Ws ?_;refine Ws ?_;refine Ws ?_;refine Ws ?_;refine Ws ?_;refine Ws ?_;refine Wq Cz ?_;refine Y0<|Ct<|Y1<|Wa<|Y0<|BV<|DU<|Ds<|It<|DU<|Ds ?_
      exact Yf
    .obtain rfl:k=8:=by omega
     rw[Yak (show Wd n r from⟨A,N,w⟩)];exact Zfu
  .rw [Yad B]at L
   rw[Yad λh:Wd n r=>B λl J=>by obtain⟨i,K,rfl⟩:=A9y J;exact h.2.1 i K];refine Ab func171 λv=>?_;rw[ntmps171];apply Y1;refine Bx ?_;refine Bx ?_;refine Wa<|Y0 ?_;refine CL 1 3 rfl rfl rfl ?_;refine Ai<|Y1 ?_;refine Wq AE ?_;refine Wq AT ?_;refine Wq (AK (W)) ?_;refine Wq GR ?_;refine Wm ?_;refine Wg AE ?_;refine Wg (A0X (ao rfl) (Aa rfl) (Aa rfl) rfl ZbD) ?_;refine Wg (AK (L)) ?_;refine Wg GR ?_;refine Wq BT ?_;refine Y0<|Ct<|Y1<|Wa<|Y0<|BV<|Ds ?_
   exact Yf
 .rw [Yad A]at W
  rw[Yad λh:Wd n r=>A h.1];refine Ab func171 λv=>?_;rw[ntmps171];exact Zfu
def Gd(c:Clm):Bool:=c.kind==0&&c.n==0&&c.d==0&&c.r==0&&((c.p.length:Nat):Int)==0&&((c.o.length:Nat):Int)==0&&((c.l.length:Nat):Int)==0&&((c.s.length:Nat):Int)==0&&((c.b.length:Nat):Int)==0
theorem Ur(c:Clm):Abs prog 161 [AP (EE c)] (ex (.bool (Gd c))):=by
 refine Ab func161 λv=>?_;rw[ntmps161];apply Y1;refine Bx ?_;refine Wa<|Y0 ?_;refine CL 0 1 rfl rfl rfl ?_;apply Y1;refine Wq AE ?_;refine Wq AT ?_;refine Wq Ci ?_;refine Wm ?_;refine EG (λH=>AE) ?_;refine CG 7 rfl (λH=>AT) ?_;refine CG 8 rfl (λH=>Ci) ?_;refine Wq CP ?_;refine Wm ?_;refine EG (λH=>AE) ?_;refine CG 12 rfl (λH=>AT) ?_;refine CG 13 rfl (λH=>Ci) ?_;refine Wq CP ?_;refine Wm ?_;refine EG (λH=>AE) ?_;refine CG 17 rfl (λH=>AT) ?_;refine CG 18 rfl (λH=>Ci) ?_;refine Wq CP ?_;refine Wm ?_;refine EG (λH=>AE) ?_;refine CG 22 rfl (λH=>AT) ?_;refine CG 23 rfl (λH=>BK) ?_;refine CG 24 rfl (λH=>Ci) ?_;refine Wq CP ?_;refine Wm ?_;refine EG (λH=>AE) ?_;refine CG 28 rfl (λH=>AT) ?_;refine CG 29 rfl (λH=>BK) ?_;refine CG 30 rfl (λH=>Ci) ?_;refine Wq CP ?_;refine Wm ?_;refine EG (λH=>AE) ?_;refine CG 34 rfl (λH=>AT) ?_;refine CG 35 rfl (λH=>BK) ?_;refine CG 36 rfl (λH=>Ci) ?_;refine Wq CP ?_;refine Wm ?_;refine EG (λH=>AE) ?_;refine CG 40 rfl (λH=>AT) ?_;refine CG 41 rfl (λH=>BK) ?_;refine CG 42 rfl (λH=>Ci) ?_;refine Wq CP ?_;refine Wm ?_;refine EG (λH=>AE) ?_;refine CG 46 rfl (λH=>AT) ?_;refine CG 47 rfl (λH=>BK) ?_;refine CG 48 rfl (λH=>Ci) ?_;refine Wq CP ?_;refine Wa<|Y0<|BV ?_
 exact Yf
structure ClZ(c:Clm):Prop where
 kind:IW c.kind
 p:PZ c.p
 n:IW c.n
 d:IW c.d
 r:IW c.r
 o:LZ (Fz IW) c.o
 l:LZ PZ c.l
 s:LZ IW c.s
 b:LZ (Fz VZ) c.b
def Dc(k:Cor)(c:Clm):Prop:=
 if c.kind=1\/c.kind=2\/c.kind=10 then UH k.n 12 c.p/\(c.n=0/\c.d=0/\c.r=0)/\c.o=[]/\c.l=[]/\c.s=[]/\c.b=[]
 else if c.kind=3\/c.kind=9 then(c.n=0/\c.d=0/\c.r=0)/\c.p=[]/\c.o=[]/\c.l=[]/\c.s=[]/\c.b=[]
 else if c.kind=4 then(OValid c.o/\Jl k.n c.l)/\(c.n=0/\c.d=0/\c.r=0)/\c.p=[]/\c.s=[]/\c.b=[]
 else if c.kind=5 then(-1<=c.d/\c.d<=k.n/\SmI c.n)/\c.r=0/\c.p=[]/\c.o=[]/\c.l=[]/\c.s=[]/\c.b=[]
 else if c.kind=6 then(0<=c.r/\c.r<=c.d/\c.d<=c.n/\SmI c.n)/\c.p=[]/\c.o=[]/\c.l=[]/\c.s=[]/\c.b=[]
 else if c.kind=7 then SS k.n c.b/\(c.n=0/\c.d=0/\c.r=0)/\c.p=[]/\c.o=[]/\c.l=[]/\c.s=[]
 else if c.kind=8 then(UH k.n 12 c.p/\SS k.n c.b/\c.s.length=c.b.length/\∀z∈c.s,SgP z)/\(c.n=0/\c.d=0/\c.r=0)/\c.o=[]/\c.l=[]
 else if c.kind=11 then Jl k.n c.l/\(c.n=0/\c.d=0/\c.r=0)/\c.p=[]/\c.o=[]/\c.s=[]/\c.b=[]
 else if c.kind=12\/c.kind=13 then SmI c.n/\(c.d=0/\c.r=0)/\c.p=[]/\c.o=[]/\c.l=[]/\c.s=[]/\c.b=[]
 else False
def MR(k:Cor)(c:Clm):Prop:=Og k/\Dc k c
theorem Rz(R:List (Nat->Int)):Abs prog 155 [Ep R] (ex (.bool (decide (OValid R)))):=by
 refine BI (Ag func155 ZbI ZbI) λs K F J r=>?_;rw[vs1 J];exact(A0a (K.getD 0 undef) R s.w (A2O (r 0 ZbS))).mono λe N ⟨b,V⟩=>⟨_,b,V,λj d g _ _=>rfl⟩
theorem TO(k:Cor)(c:Clm)(G:CZ k)(I:ClZ c):Abs prog 79 [AP (Eb k++EE c)] (ex (.bool (decide (MR k c)))):=by
 have W:=Ou k G;by_cases J:Og k
 .rw [Yak J]at W
  have E:NV k:=⟨J.1,J.2.1⟩;have u:=VU k E c.p 12 I.p;have j:=Rz c.o;have f:=RP k E c.l I.l;have Z:=XU c.n;have e:=Uq k c.b I.b;have a:=AbB (P:=SgP) (F:=ex (.func (.func 160) #[] #[])) 3 c.s (λx _=>FnAbs.ex (A0l x)) I.s.n;have M:MR k c↔Dc k c:=⟨λh=>h.2,λh=>⟨J,h⟩⟩;rw[show decide (MR k c)=decide (Dc k c)from YcT.2 M];obtain⟨kind,p,n,d,r,o,l,s,b⟩:=c;refine Ab func79 λv=>?_;rw[ntmps79];apply Y1;refine Bx ?_;refine Wa<|Y0 ?_;refine CL 0 1 rfl rfl rfl ?_;refine Ai<|Y1 ?_;refine Wq AE ?_;refine Wq Fb ?_;refine Wq (AK (W)) ?_;refine Wq GR ?_;refine Y0<|Cf<|Ys<|Y1 ?_;refine Wq AE ?_;refine Wq Ca ?_;refine Al ?_;refine Sf ?_;apply Y0;refine CL 1 3 rfl rfl rfl ?_;apply Y1;refine Wq Ca ?_;refine Al ?_;refine Sf ?_;refine Y0<|Y1 ?_;refine Wq AB ?_;refine Dd (ao rfl) (ao rfl) rfl (Aa rfl) ZbU rfl rfl ?_;refine Y0<|Y1<|Wa<|Y0<|Ai<|Y1 ?_;refine Wq AE ?_;refine Wq AT ?_;apply Y0;refine Zu 0 (λi:Bool×Clm=>⟨[(4,.ptr 2 0),(5,.d (ex (.bool i.1)))],[.dead,.dead,.var 34 ((EE i.2).map .d)]⟩) (λi=>decide (Dc k ⟨kind,p,n,d,r,o,l,s,b⟩)=(i.1&&Gd i.2)) ?_ ?_;refine AWp.block<|Ai<|Y1 ?_;refine Wq Ci ?_;refine Wa<|Y0 ?_
  .refine DT (σ':=⟨[(5,.d (ex (.bool true))),(1,.d (Fg 143 (Eb k++EE ⟨kind,p,n,d,r,o,l,s,b⟩))),(3,.d (Fg 34 (EE ⟨kind,p,n,d,r,o,l,s,b⟩))),(4,.ptr 2 0),(15,.d (ex (.int .i64 kind))),(16,.d (ex (.bool (kind==1))))],[.dead,.dead,.var 34 ((EE ⟨0,p,n,d,r,o,l,s,b⟩).map .d)]⟩) ?wk ?_
   case wk=>exact Ac (by exact Yd<|Yd<|Yd<|Yp<|Yd<|Yd<|FrLe.nil) Zek
   by_cases A:kind=1
   .subst A
    refine Go ?_;exact Zgp
   by_cases C:kind=2
   .subst C
    refine Go ?_;exact Zgp
   by_cases O:kind=10
   .subst O
    refine Go ?_;exact Zgp
   by_cases L:kind=3
   .subst L
    refine Go ?_;exact ZhW
   by_cases Q:kind=9
   .subst Q
    refine Go ?_;exact ZhW
   by_cases S:kind=4
   .subst S
    refine ZfG ?_;refine CG 35 rfl (λH=>Fb) ?_;refine EG (λH=>AE) ?_;refine CG 37 rfl (λH=>AT) ?_;refine YO 36 rfl 38 rfl (λH=>AK (f)) ?_;refine Go ?_;refine CutS.normal (decide (OValid o)&&decide (Jl k.n l),⟨0,p,n,d,r,[],[],s,b⟩) Zcl ?_;exact Zkn
   by_cases F:kind=5
   .subst F
    refine ZfG ?_;refine CG 49 rfl (λH=>AT) ?_;refine EG (λH=>AE) ?_;refine CG 51 rfl (λH=>AE) ?_;refine CG 52 rfl (λH=>AE) ?_;refine CG 53 rfl (λH=>AT) ?_;refine YO 50 rfl 54 rfl (λH=>Ci) ?_;refine ZfG ?_;refine CG 58 rfl (λH=>AT) ?_;refine CG 59 rfl (λH=>AK (Z)) ?_;refine Go ?_;refine CutS.normal (decide (d ≥ -1)&&decide (d<=k.n)&&decide (SmI n),⟨0,p,0,0,r,o,l,s,b⟩) Zcl ?_;exact Zkn
   by_cases K:kind=6
   .subst K
    refine ZfG ?_;refine CG 70 rfl (λH=>AT) ?_;refine EG (λH=>AE) ?_;refine CG 72 rfl (λH=>AT) ?_;refine YO 71 rfl 73 rfl (λH=>Ci) ?_;refine ZfG ?_;refine CG 77 rfl (λH=>AT) ?_;refine EG (λH=>AE) ?_;refine CG 79 rfl (λH=>AT) ?_;refine YO 78 rfl 80 rfl (λH=>Ci) ?_;refine ZfG ?_;refine CG 84 rfl (λH=>AT) ?_;refine CG 85 rfl (λH=>AK (Z)) ?_;refine Go ?_;refine CutS.normal (decide (0<=r)&&decide (r<=d)&&decide (d<=n)&&decide (SmI n),⟨0,p,0,0,0,o,l,s,b⟩) Zcl ?_;exact Zkn
   by_cases g:kind=7
   .subst g
    refine Go ?_;refine CutS.normal (decide (SS k.n b),⟨0,p,n,d,r,o,l,s,[]⟩) Zcl ?_;exact Zkn
   by_cases y:kind=8
   .subst y
    refine ZfG ?_;refine CG 107 rfl (λH=>Fb) ?_;refine EG (λH=>AE) ?_;refine CG 109 rfl (λH=>AT) ?_;refine YO 108 rfl 110 rfl (λH=>AK (e)) ?_;refine ZfG ?_;refine CG 114 rfl (λH=>AT) ?_;refine CG 115 rfl (λH=>BK) ?_;refine EG (λH=>AE) ?_;refine CG 117 rfl (λH=>AT) ?_;refine CG 118 rfl (λH=>BK) ?_;refine YO 116 rfl 119 rfl (λH=>Ci) ?_;refine ZfG ?_;refine CG 123 rfl (λH=>AT) ?_;refine CG 124 rfl (λH=>AK (a)) ?_;refine Go ?_;refine CutS.normal (decide (UH k.n 12 p)&&decide (SS k.n b)&&(((s.length:Nat):Int)==((b.length:Nat):Int))&&decide (∀x∈s,SgP x),⟨0,[],n,d,r,o,l,[],[]⟩) (by rw[YcP];simp[Dc,Gd,and_assoc];intros;omega) ?_;exact Zkn
   by_cases R:kind=11
   .subst R
    refine Go ?_;refine CutS.normal (decide (Jl k.n l),⟨0,p,n,d,r,o,[],s,b⟩) Zcl ?_;exact Zkn
   by_cases V:kind=12
   .subst V
    refine Go ?_;exact Zhy
   by_cases q:kind=13
   .subst q
    refine Go ?_;exact Zhy
   have Y:¬Dc k ⟨kind,p,n,d,r,o,l,s,b⟩:=λh=>by simp[Dc,A,C,O,L,Q,S,F,K,g,y,R,V,q]at h
   rw[Yad Y];refine Go ?_;refine CutS.ret ?_;exact Yf
  .rintro ⟨B,N⟩ X
   refine Go ?_;refine EG (λH=>AH) ?_;refine CG 147 rfl (λH=>AK (Ur N)) ?_;refine Go ?_;exact AA (Am (ResV.tmp rfl rfl) (Ae (by rw[X])))
 .rw [Yad J]at W
  rw[Yad λh:MR k c=>J h.1];refine Ab func79 λv=>?_;rw[ntmps79];exact Zfu
structure CrZ(e:Crt):Prop where
 n:IW e.n
 cof:LZ PZ e.cof
 g:LZ PZ e.g
 o:LZ (Fz IW) e.o
 c:LZ (LZ PZ) e.c
 q:LZ (LZ PZ) e.q
 s:LZ (LZ PZ) e.s
 r:RZ e.r
 a:LZ VZ e.a
 sq:LZ SZ e.sq
 x:LZ (Fz QZ) e.x
 b:LZ (Fz VZ) e.b
def NoU(l:List RQ):Prop:=l.length=0
def NoR(r:Rsl):Prop:=∀i,i<8->NoU (r.r i)
def NoL(r:Rsl):Prop:=∀i,i<8->r.l i=0
theorem Uk(l:List RQ):Abs prog 257 [GY l] (ex (.bool (decide (NoU l)))):=by
 refine Ab func257 λv=>?_;rw[ntmps257];refine Go ?_;exact AA (Am (ResV.tmp rfl rfl) (Ae (congrArg (λb=>ex (.bool b)) (by rw[YcP];simp[NoU]))))
def no8:Nat->Int:=λ_=>0
noncomputable def FH (e:Crt):Bool:=e.n==0&&((e.cof.length:Nat):Int)==0&&((e.g.length:Nat):Int)==0&&((e.o.length:Nat):Int)==0&&((e.c.length:Nat):Int)==0&&((e.q.length:Nat):Int)==0&&((e.s.length:Nat):Int)==0&&Om e.r.l no8&&decide (NoU e.r.q)&&decide (NoR e.r)&&((e.a.length:Nat):Int)==0&&((e.sq.length:Nat):Int)==0&&((e.x.length:Nat):Int)==0&&((e.b.length:Nat):Int)==0
theorem Sx(e:Crt):Abs prog 177 [AP (DD e)] (ex (.bool (FH e))):=by
 have W:=Uk e.r.q;have L:=A8M (P:=NoU) (F:=ex (.func (.func 257) #[] #[])) 46 [e.r.r 0,e.r.r 1,e.r.r 2,e.r.r 3,e.r.r 4,e.r.r 5,e.r.r 6,e.r.r 7] (λx _=>FnAbs.ex (Uk x)) ZbS;have A:=L.le (r':=ex (.bool (decide (NoR e.r)))) (Ae (congrArg (λb=>ex (.bool b)) (YcT.2 ⟨λh i K=>h _ (A8C K),λh x E=>by obtain⟨i,K,rfl⟩:=A9y E;exact h i K⟩)));refine Ab func177 λv=>?_;rw[ntmps177];apply Y1;refine Bx ?_;refine Wa<|Y0 ?_;refine CL 0 1 rfl rfl rfl ?_;refine Y1<|Wa<|Y0<|Y1 ?_;refine Wq AE ?_;refine Wq AT ?_;refine Wq Ci ?_;refine Wm ?_;refine EG (λH=>AE) ?_;refine CG 8 rfl (λH=>AT) ?_;refine CG 9 rfl (λH=>BK) ?_;refine CG 10 rfl (λH=>Ci) ?_;refine Wq CP ?_;refine Wm ?_;refine EG (λH=>AE) ?_;refine CG 14 rfl (λH=>AT) ?_;refine CG 15 rfl (λH=>BK) ?_;refine CG 16 rfl (λH=>Ci) ?_;refine Wq CP ?_;refine Wm ?_;refine EG (λH=>AE) ?_;refine CG 20 rfl (λH=>AT) ?_;refine CG 21 rfl (λH=>BK) ?_;refine CG 22 rfl (λH=>Ci) ?_;refine Wq CP ?_;refine Wm ?_;refine EG (λH=>AE) ?_;refine CG 26 rfl (λH=>AT) ?_;refine CG 27 rfl (λH=>BK) ?_;refine CG 28 rfl (λH=>Ci) ?_;refine Wq CP ?_;refine Wm ?_;refine EG (λH=>AE) ?_;refine CG 32 rfl (λH=>AT) ?_;refine CG 33 rfl (λH=>BK) ?_;refine CG 34 rfl (λH=>Ci) ?_;refine Wq CP ?_;refine Wm ?_;refine EG (λH=>AE) ?_;refine CG 38 rfl (λH=>AT) ?_;refine CG 39 rfl (λH=>BK) ?_;refine CG 40 rfl (λH=>Ci) ?_;refine Wq CP ?_;refine Wm ?_;refine EG (λH=>AE) ?_;refine CG 44 rfl (λH=>AE) ?_;refine CG 45 rfl (λH=>Fb) ?_;refine EG (λH=>Aq (by refine Ly (Aa rfl) (Aa rfl) rfl rfl ?_;refine⟨_,rfl,?_⟩;rfl)) ?_;refine YO 46 rfl 47 rfl (λH=>A6j (a:=e.r.l) (b:=no8) (ao rfl) (ao rfl)) ?_;refine Wq CP ?_;refine Wm ?_;refine EG (λH=>AQ) ?_;refine EG (λH=>AE) ?_;refine CG 52 rfl (λH=>AE) ?_;refine CG 53 rfl (λH=>AT) ?_;refine YO 51 rfl 54 rfl (λH=>Dl (ao rfl) (FnAbs.ex W) Zcq) ?_;refine Wq CP ?_;refine Wm ?_;refine EG (λH=>AE) ?_;refine CG 58 rfl (λH=>AE) ?_;refine CG 59 rfl (λH=>A0X (ao rfl) (Aa rfl) (Aa rfl) rfl ZbD) ?_;refine EG (λH=>AQ) ?_;refine YO 60 rfl 61 rfl (λH=>AK (A)) ?_;refine Wq CP ?_;refine Wm ?_;refine EG (λH=>AE) ?_;refine CG 65 rfl (λH=>AT) ?_;refine CG 66 rfl (λH=>BK) ?_;refine CG 67 rfl (λH=>Ci) ?_;refine Wq CP ?_;refine Wm ?_;refine EG (λH=>AE) ?_;refine CG 71 rfl (λH=>AT) ?_;refine CG 72 rfl (λH=>BK) ?_;refine CG 73 rfl (λH=>Ci) ?_;refine Wq CP ?_;refine Wm ?_;refine EG (λH=>AE) ?_;refine CG 77 rfl (λH=>AT) ?_;refine CG 78 rfl (λH=>BK) ?_;refine CG 79 rfl (λH=>Ci) ?_;refine Wq CP ?_;refine Wm ?_;refine EG (λH=>AE) ?_;refine CG 83 rfl (λH=>AT) ?_;refine CG 84 rfl (λH=>BK) ?_;refine CG 85 rfl (λH=>Ci) ?_;refine Wq CP ?_;refine Wa<|Y0<|BV ?_
 exact Yf
noncomputable def EF (k:Cor) (e:Crt):Bool:=decide (Jl k.n e.g)&&decide (OValid e.o)&&decide (Jx k.n (e.g.length:Nat) (k.e.length:Nat) e.c)&&decide (Jx k.n (k.e.length:Nat) (e.g.length:Nat) e.q)&&decide (Jx k.n (((e.g.length:Nat):Int)*(((e.g.length:Nat):Int)-1)/2) (e.g.length:Nat) e.s)
noncomputable def JV (k:Cor) (e:Crt):Bool:=(((e.cof.length:Nat):Int)==((k.e.length:Nat):Int))&&decide (My k.n e.cof)
theorem A2a(k:Cor)(c:Clm)(e:Crt)(C:NV k)(b:CrZ e):Abs prog 166 [AP (El ⟨k,c,e⟩)] (ex (.bool (JV k e))):=by
 have W:=Sa k C e.cof b.cof;refine Ab func166 λv=>?_;rw[ntmps166];apply Y1;refine Bx ?_;refine Wa<|Y0 ?_;refine CL 0 1 rfl rfl rfl ?_;apply Y1;refine Wq AE ?_;refine Wq AE ?_;refine Wq AT ?_;refine Wq BK ?_;refine Wq AE ?_;refine Wq AE ?_;refine Wq AE ?_;refine Wq AE ?_;refine Wq AT ?_;refine Wq BK ?_;refine Wq Ci ?_;refine Wm ?_;refine EG (λH=>AE) ?_;refine CG 15 rfl (λH=>AE) ?_;refine CG 16 rfl (λH=>Fb) ?_;refine EG (λH=>AE) ?_;refine CG 18 rfl (λH=>AE) ?_;refine CG 19 rfl (λH=>AT) ?_;refine YO 17 rfl 20 rfl (λH=>AK (W)) ?_;refine Wq CP ?_;refine Wa<|Y0<|BV ?_
 exact Yf
theorem A3h(k:Cor)(c:Clm)(e:Crt)(C:NV k)(b:CrZ e):Abs prog 167 [AP (El ⟨k,c,e⟩)] (ex (.bool (EF k e))):=by
 have P:=b.g.n;obtain⟨N,R⟩:∃N:Int,N=((e.g.length:Nat):Int):=⟨_,rfl⟩;have y:0<=N/\N<=40000:=by omega
 have Y:0<=N*(N-1):=by
  rcases Int.lt_or_le 0 N with h | h
  .exact Yco ZbD ZbD
  .rw [show N=0 by omega];decide
 have S:N*(N-1)<=40000*40000:=Yek (YdQ (show N-1<=40000 by omega) y.1) (YdM y.2 ZbH);obtain⟨M,A⟩:∃M:Int,M=N*(N-1):=⟨_,rfl⟩;rw[<-A]at Y S;have I:IntKind.i64.wrap (((e.g.length:Nat):Int)*(((e.g.length:Nat):Int)-1))=M:=by rw[<-R,<-A,IntKind.wrap_i64];omega
 have B:IntKind.i64.wrap (M.tdiv 2)=M/2:=by rw[YbS Y,IntKind.wrap_i64];omega
 have W:=RP k C e.g b.g;have L:=Rz e.o;have E:=JA k C (e.g.length:Nat) (k.e.length:Nat) e.c b.c;have Z:=JA k C (k.e.length:Nat) (e.g.length:Nat) e.q b.q;have K:=JA k C (M/2) (e.g.length:Nat) e.s b.s;have V:EF k e=(decide (Jl k.n e.g)&&decide (OValid e.o)&&decide (Jx k.n (e.g.length:Nat) (k.e.length:Nat) e.c)&&decide (Jx k.n (k.e.length:Nat) (e.g.length:Nat) e.q)&&decide (Jx k.n (M/2) (e.g.length:Nat) e.s)):=by rw[A,R];rfl
 rw[V];refine Ab func167 λv=>?_;rw[ntmps167];refine Go ?_;refine FV (τ:=⟨[(1,.ptr 0 0),(3,.ptr 1 0),(4,.d (ex (.int .i64 ((k.e.length:Nat):Int)))),(5,.d (ex (.int .i64 ((e.g.length:Nat):Int))))],[.var 150 ((El ⟨k,c,e⟩).map .d),.var 46 ((DD e).map .d)]⟩) ZbI [[],[(6,0)],[],[(8,2)],[(9,3)],[(10,4)],[(11,5)],[(12,6)],[],[(14,8)],[(15,9)],[(16,10)],[],[(3,12),(7,1)],[(13,7)],[(17,11)]] [.av (.ptr 0 12),.av (.d (AP (DD e))),.av (.ptr 0 0),.av (.ptr 0 0),.av (.ptr 0 0),.av (.ptr 0 1),.av (.d (Ib k.e)),.av (.d (ex (.int .i64 ((k.e.length:Nat):Int)))),.av (.ptr 0 12),.av (.ptr 0 14),.av (.d (Ib e.g)),.av (.d (ex (.int .i64 ((e.g.length:Nat):Int)))),.newS 46 13 (DD e),.st 12,.av (.d (ex (.int .i64 ((k.e.length:Nat):Int)))),.av (.d (ex (.int .i64 ((e.g.length:Nat):Int))))] ZbI ?_ ?_ ?_
 .refine Zgf ?_;refine Zgb ?_;refine Zgl ?_;refine HYSteps.cons (.q rfl (Bi rfl (Aa rfl))) ?_;refine Zgl ?_;refine Zgs ?_;refine Zfx ?_;refine HYSteps.cons (.q rfl (Bm rfl)) ?_;exact HYSteps.nil
 .exact Ac (by exact Yp<|Yp<|Yd<|Yd<|FrLe.nil) Zcu
 apply Yn;refine CL 0 1 rfl rfl rfl ?_;refine CL 1 3 rfl rfl rfl ?_;refine ZfG ?_;refine CG 25 rfl (λH=>AT) ?_;refine CG 26 rfl (λH=>AK (L)) ?_;refine ZfG ?_;refine CG 30 rfl (λH=>AE) ?_;refine CG 31 rfl (λH=>Fb) ?_;refine EG (λH=>AE) ?_;refine CG 33 rfl (λH=>AT) ?_;refine EG (λH=>AQ) ?_;refine EG (λH=>AQ) ?_;refine Wu4 32 rfl 34 rfl 35 rfl 36 rfl (λH=>AK (E)) ?_;refine ZfG ?_;refine CG 40 rfl (λH=>AE) ?_;refine CG 41 rfl (λH=>Fb) ?_;refine EG (λH=>AE) ?_;refine CG 43 rfl (λH=>AT) ?_;refine EG (λH=>AQ) ?_;refine EG (λH=>AQ) ?_;refine Wu4 42 rfl 44 rfl 45 rfl 46 rfl (λH=>AK (Z)) ?_;refine ZfG ?_;refine CG 50 rfl (λH=>AE) ?_;refine CG 51 rfl (λH=>Fb) ?_;refine EG (λH=>AE) ?_;refine CG 53 rfl (λH=>AT) ?_;refine EG (λH=>AQ) ?_;refine EG (λH=>AQ) ?_;refine CG 56 rfl (λH=>A0K) ?_;refine YO 55 rfl 57 rfl (λH=>GU (ao rfl) (ao rfl) I) ?_;refine CG 58 rfl (λH=>Aak) ?_;refine EG (λH=>AQ) ?_;refine Wu4 52 rfl 54 rfl 59 rfl 60 rfl (λH=>AK (K)) ?_;exact Zfu
def woB(e:Crt):Crt:=⟨e.n,e.cof,[],[],[],[],[],e.r,e.a,e.sq,e.x,e.b⟩
theorem Gv(e:Crt):Abs prog 168 [AP (DD e)] (AP (DD (woB e))):=by
 refine Ab func168 λv=>?_;rw[ntmps168];refine Go ?_;exact AA (Am (ResV.cell rfl rfl (Aa rfl) rfl rfl rfl) (Ce ZdH))
def Od(r:Rsl):Prop:=NoL r/\NoU r.q/\NoR r
def Mp(k:Cor)(e:Crt):Prop:=((e.cof.length:Nat):Int)=((k.e.length:Nat):Int)/\My k.n e.cof
def Lz(k:Cor)(e:Crt):Prop:=Jl k.n e.g/\OValid e.o/\Jx k.n (e.g.length:Nat) (k.e.length:Nat) e.c/\Jx k.n (k.e.length:Nat) (e.g.length:Nat) e.q/\Jx k.n (((e.g.length:Nat):Int)*(((e.g.length:Nat):Int)-1)/2) (e.g.length:Nat) e.s
def DR(k:Cor)(c:Clm)(e:Crt):Prop:=
 if c.kind=1 then Mp k e/\e.n=0/\e.g=[]/\e.o=[]/\e.c=[]/\e.q=[]/\e.s=[]/\Od e.r/\e.a=[]/\e.sq=[]/\e.x=[]/\e.b=[]
 else if c.kind=2\/c.kind=4\/c.kind=5\/c.kind=6 then Lz k e/\e.n=0/\e.cof=[]/\Od e.r/\e.a=[]/\e.sq=[]/\e.x=[]/\e.b=[]
 else if c.kind=3 then(1<=e.n/\e.n<=64/\Mp k e)/\e.g=[]/\e.o=[]/\e.c=[]/\e.q=[]/\e.s=[]/\Od e.r/\e.a=[]/\e.sq=[]/\e.x=[]/\e.b=[]
 else if c.kind=7\/c.kind=8 then(Lz k e/\e.a.length<=64/\(∀x∈e.a,IvP x)/\Wd k.n e.r)/\e.n=0/\e.cof=[]/\e.sq=[]/\e.x=[]/\e.b=[]
 else if c.kind=9\/c.kind=10 then(e.sq.length<=64/\(∀x∈e.sq,SqP k.n x)/\Mp k e)/\e.n=0/\e.g=[]/\e.o=[]/\e.c=[]/\e.q=[]/\e.s=[]/\Od e.r/\e.a=[]/\e.x=[]/\e.b=[]
 else if c.kind=11 then Jx k.n (1+((c.l.length:Nat):Int)*(((c.l.length:Nat):Int)+1)/2) (k.e.length:Nat) e.c/\e.n=0/\e.cof=[]/\e.g=[]/\e.o=[]/\e.q=[]/\e.s=[]/\Od e.r/\e.a=[]/\e.sq=[]/\e.x=[]/\e.b=[]
 else if c.kind=12 then(Jl k.n e.g/\OValid e.o/\Jx k.n (e.g.length:Nat) (k.e.length:Nat) e.c)/\e.n=0/\e.cof=[]/\e.q=[]/\e.s=[]/\Od e.r/\e.a=[]/\e.sq=[]/\e.x=[]/\e.b=[]
 else if c.kind=13 then(e.x.length<=64/\(∀x∈e.x,PtP k.n x)/\SS k.n e.b)/\e.n=0/\e.cof=[]/\e.g=[]/\e.o=[]/\e.c=[]/\e.q=[]/\e.s=[]/\Od e.r/\e.a=[]/\e.sq=[]
 else False
def PW(k:Cor)(c:Clm)(e:Crt):Prop:=MR k c/\DR k c e
theorem Ef(r:Rsl):(Om r.l no8=true/\NoU r.q/\NoR r)↔Od r:=by
 rw[IH];exact YdO
theorem OS(n:Nat):((n:Int)<=64)↔n<=64:=by omega
theorem OL:Om no8 no8=true:=by decide
theorem Pp:NoU []:=rfl
theorem Pq:NoR ⟨no8,[],λ_=>[]⟩:=λ_ _=>rfl
theorem A7y{k:Cor}{c:Clm}(h:Dc k c):1<=c.kind/\c.kind<=13:=by
 unfold Dc at h
 repeat (split at h;omega)
 exact h.elim
theorem A0n(k:Cor)(c:Clm)(e:Crt)(K:CZ k)(I:ClZ c)(G:CrZ e):Abs prog 86 [AP (El ⟨k,c,e⟩)] (ex (.bool (decide (PW k c e)))):=by
 have W:=TO k c K I;by_cases N:MR k c
 .rw [Yak N]at W
  have E:NV k:=⟨N.1.1,N.1.2.1⟩;have m:=A7y N.2;have hF:PW k c e↔DR k c e:=⟨λh=>h.2,λh=>⟨N,h⟩⟩;rw[show decide (PW k c e)=decide (DR k c e)from YcT.2 hF];clear hF N;have U:=A2a k c e E G;have cB:=A3h k c e E G;have cL:=RP k E e.g G.g;have cO:=Rz e.o;have cT:=JA k E (e.g.length:Nat) (k.e.length:Nat) e.c G.c;have cI:=AbA (P:=IvP) (F:=ex (.func (.func 170) #[] #[])) 129 e.a (λx F=>FnAbs.ex (KW x (G.a.e x F))) G.a.n;have cR:=Ti k e.r G.r;have t:=Abv (P:=SqP k.n) (F:=fvD 173 [AP (Eb k)] []) 184 e.sq (λx F=>Lx (ZN k E x (G.sq.e x F))) G.sq.n;have cX:=Abx (P:=PtP k.n) (F:=fvD 176 [AP (Eb k)] []) 187 e.x (λx F=>Lx (A2M k x (G.x.e x F))) G.x.n;have cW:=Uq k e.b G.b;have z:=I.l.n;obtain⟨kind,p,n,d,r,o,l,s,b⟩:=c;have z:l.length<=40000:=z;obtain⟨M,V⟩:∃M:Int,M=((l.length:Nat):Int)*(((l.length:Nat):Int)+1):=⟨_,rfl⟩;have xa:0<=M:=by rw[V];exact Yco ZbD ZbD
  have xf:M<=40000*40001:=by rw[V];exact Yek (YdQ (show((l.length:Nat):Int)+1<=40001 by omega) ZbD) (YdM (show((l.length:Nat):Int)<=40000 by omega) ZbH)
  have xb:IntKind.i64.wrap (((l.length:Nat):Int)*((l.length+1:Nat):Int))=M:=by rw[show((l.length+1:Nat):Int)=((l.length:Nat):Int)+1 by omega,<-V,IntKind.wrap_i64];omega
  have xe:IntKind.i64.wrap (((l.length:Nat):Int)+1)=((l.length+1:Nat):Int):=by rw[IntKind.wrap_i64];omega
  have xc:IntKind.i64.wrap (M.tdiv 2)=M/2:=by rw[YbS xa,IntKind.wrap_i64];omega
  have xd:IntKind.i64.wrap (1+M/2)=1+M/2:=by rw[IntKind.wrap_i64];omega
  have cM:=JA k E (1+M/2) (k.e.length:Nat) e.c G.c;have m:1<=kind/\kind<=13:=m;refine Ab func86 λv=>?_;rw[ntmps86];refine Go ?_;refine FV (τ:=⟨[(1,.ptr 0 0),(3,.ptr 1 0),(4,.d (ex (.int .i64 ((k.e.length:Nat):Int))))],[.var 150 ((El ⟨k,⟨kind,p,n,d,r,o,l,s,b⟩,e⟩).map .d),.var 46 ((DD e).map .d)]⟩) ZbI [[],[(12,0)],[],[(14,2)],[(15,3)],[(16,4)],[(17,5)],[(18,6)],[],[(3,8),(13,1)],[(19,7)]] [.av (.ptr 0 12),.av (.d (AP (DD e))),.av (.ptr 0 0),.av (.ptr 0 0),.av (.ptr 0 0),.av (.ptr 0 1),.av (.d (Ib k.e)),.av (.d (ex (.int .i64 ((k.e.length:Nat):Int)))),.newS 46 9 (DD e),.st 8,.av (.d (ex (.int .i64 ((k.e.length:Nat):Int))))] ZbI ?_ ?_ ?_
  .refine Zgf ?_;refine Zgb ?_;refine Zgl ?_;refine Zgs ?_;exact ZfY
  .exact Ac ZcT Zcu
  apply Yn;refine CL 0 1 rfl rfl rfl ?_;refine CL 1 3 rfl rfl rfl ?_;apply Y1;refine Wq Ca ?_;refine Al ?_;refine Sf ?_;refine Y0<|Y1<|Wa<|Y0<|Ai<|Y1 ?_;refine Wq AE ?_;refine Wq AE ?_;refine Wq AE ?_;refine Wq AT ?_;apply Y0;refine Zu 0 (λi:Bool×Crt=>⟨[(5,.ptr 2 0),(6,.d (ex (.bool i.1)))],[.dead,.dead,.var 46 ((DD i.2).map .d)]⟩) (λi=>decide (DR k ⟨kind,p,n,d,r,o,l,s,b⟩ e)=(i.1&&FH i.2)) ?_ ?_;refine AWp.block<|Y1 ?_;refine Wq Ci ?_;refine Wa<|Y0 ?_
  .refine DT (σ':=⟨[(6,.d (ex (.bool true))),(1,.d (Fg 150 (El ⟨k,⟨kind,p,n,d,r,o,l,s,b⟩,e⟩))),(3,.d (Fg 46 (DD e))),(4,.d (ex (.int .i64 ((k.e.length:Nat):Int)))),(5,.ptr 2 0),(24,.d (ex (.int .i64 kind))),(25,.d (ex (.bool (kind==1))))],[.dead,.dead,.var 46 ((DD e).map .d)]⟩) ?wk ?_
   case wk=>exact Ac (by exact Yd<|Yd<|Yd<|Yd<|Yp<|Yd<|Yd<|FrLe.nil) Zek
   by_cases A:kind=1
   .subst A
    refine Go ?_;refine CutS.normal (JV k e,⟨e.n,[],e.g,e.o,e.c,e.q,e.s,e.r,e.a,e.sq,e.x,e.b⟩) ZbQ ?_;exact Zkn
   by_cases C:kind=2
   .subst C
    have w:=Gv e;exact Zjj
   by_cases S:kind=4
   .subst S
    have j:=Gv e;exact Zjj
   by_cases J:kind=5
   .subst J
    have f:=Gv e;exact Zjj
   by_cases O:kind=6
   .subst O
    have u:=Gv e;exact Zjj
   by_cases L:kind=3
   .subst L
    refine ZfG ?_;refine CG 45 rfl (λH=>AT) ?_;refine CG 46 rfl (λH=>Ci) ?_;refine Go ?_;refine EG (λH=>Ca) ?_;refine CG 50 rfl (λH=>AK (U)) ?_;refine Go ?_;refine CutS.normal (decide (e.n ≥ 1)&&decide (e.n<=64)&&JV k e,⟨0,[],e.g,e.o,e.c,e.q,e.s,e.r,e.a,e.sq,e.x,e.b⟩) ZbQ ?_;exact Zkn
   by_cases g:kind=7
   .subst g
    refine ZfG ?_;refine CG 61 rfl (λH=>AT) ?_;refine CG 62 rfl (λH=>BK) ?_;refine CG 63 rfl (λH=>Ci) ?_;refine ZfG ?_;refine CG 67 rfl (λH=>AT) ?_;refine CG 68 rfl (λH=>AK (cI)) ?_;refine ZfG ?_;refine CG 72 rfl (λH=>AE) ?_;refine CG 73 rfl (λH=>Fb) ?_;refine EG (λH=>AE) ?_;refine CG 75 rfl (λH=>Fb) ?_;refine YO 74 rfl 76 rfl (λH=>AK (cR)) ?_;have P:=Gv e;refine Go ?_;exact Zgi
   by_cases y:kind=8
   .subst y
    refine ZfG ?_;refine CG 61 rfl (λH=>AT) ?_;refine CG 62 rfl (λH=>BK) ?_;refine CG 63 rfl (λH=>Ci) ?_;refine ZfG ?_;refine CG 67 rfl (λH=>AT) ?_;refine CG 68 rfl (λH=>AK (cI)) ?_;refine ZfG ?_;refine CG 72 rfl (λH=>AE) ?_;refine CG 73 rfl (λH=>Fb) ?_;refine EG (λH=>AE) ?_;refine CG 75 rfl (λH=>Fb) ?_;refine YO 74 rfl 76 rfl (λH=>AK (cR)) ?_;have T:=Gv e;refine Go ?_;exact Zgi
   by_cases Q:kind=9
   .subst Q
    refine ZfG ?_;refine CG 92 rfl (λH=>AT) ?_;refine EG (λH=>AE) ?_;refine CG 94 rfl (λH=>AE) ?_;refine CG 95 rfl (λH=>Fb) ?_;refine CG 96 rfl (λH=>Ls Zcq Zds) ?_;refine YO 93 rfl 97 rfl (λH=>AK (t)) ?_;refine Go ?_;refine EG (λH=>Ca) ?_;refine CG 101 rfl (λH=>AK (U)) ?_;refine Go ?_;exact Zgo
   by_cases R:kind=10
   .subst R
    refine ZfG ?_;refine CG 92 rfl (λH=>AT) ?_;refine EG (λH=>AE) ?_;refine CG 94 rfl (λH=>AE) ?_;refine CG 95 rfl (λH=>Fb) ?_;refine CG 96 rfl (λH=>Ls Zcq Zds) ?_;refine YO 93 rfl 97 rfl (λH=>AK (t)) ?_;refine Go ?_;refine EG (λH=>Ca) ?_;refine CG 101 rfl (λH=>AK (U)) ?_;refine Go ?_;exact Zgo
   by_cases X:kind=11
   .subst X
    refine Go ?_;refine Wq (DN (ao rfl) (ao rfl) xe) ?_;refine Wq (GU (ao rfl) (ao rfl) xb) ?_;refine Wq (GT (ao rfl) (ao rfl) ZbH xc) ?_;refine Wq (DN (ao rfl) (ao rfl) xd) ?_;refine Go ?_;refine CutS.normal (decide (Jx k.n (1+M/2) (k.e.length:Nat) e.c),⟨e.n,e.cof,e.g,e.o,[],e.q,e.s,e.r,e.a,e.sq,e.x,e.b⟩) ZbQ ?_;exact Zkn
   by_cases Z:kind=12
   .subst Z
    refine ZfG ?_;refine CG 136 rfl (λH=>AT) ?_;refine CG 137 rfl (λH=>AK (cO)) ?_;refine ZfG ?_;refine CG 141 rfl (λH=>AE) ?_;refine CG 142 rfl (λH=>Fb) ?_;refine EG (λH=>AE) ?_;refine CG 144 rfl (λH=>AT) ?_;refine EG (λH=>AE) ?_;refine CG 146 rfl (λH=>AT) ?_;refine CG 147 rfl (λH=>BK) ?_;refine EG (λH=>AQ) ?_;refine Wu4 143 rfl 145 rfl 148 rfl 149 rfl (λH=>AK (cT)) ?_;refine Go ?_;refine CutS.normal (decide (Jl k.n e.g)&&decide (OValid e.o)&&decide (Jx k.n (e.g.length:Nat) (k.e.length:Nat) e.c),⟨e.n,e.cof,[],[],[],e.q,e.s,e.r,e.a,e.sq,e.x,e.b⟩) ZbQ ?_;exact Zkn
   by_cases q:kind=13
   .subst q
    refine ZfG ?_;refine CG 162 rfl (λH=>AT) ?_;refine EG (λH=>AE) ?_;refine CG 164 rfl (λH=>AE) ?_;refine CG 165 rfl (λH=>Fb) ?_;refine CG 166 rfl (λH=>Ls Zcq Zds) ?_;refine YO 163 rfl 167 rfl (λH=>AK (cX)) ?_;refine ZfG ?_;refine CG 171 rfl (λH=>AE) ?_;refine CG 172 rfl (λH=>Fb) ?_;refine EG (λH=>AE) ?_;refine CG 174 rfl (λH=>AT) ?_;refine YO 173 rfl 175 rfl (λH=>AK (cW)) ?_;refine Go ?_;refine CutS.normal (decide (((e.x.length:Nat):Int)<=64)&&decide (∀x∈e.x,PtP k.n x)&&decide (SS k.n e.b),⟨e.n,e.cof,e.g,e.o,e.c,e.q,e.s,e.r,e.a,e.sq,[],[]⟩) ZbQ ?_;exact Zkn
   exact absurd m ZbD
  .rintro ⟨B,Y⟩ a
   refine Go ?_;refine EG (λH=>AH) ?_;refine CG 182 rfl (λH=>AK (Sx Y)) ?_;refine Go ?_;exact AA (Am (ResV.tmp rfl rfl) (Ae (by rw[a])))
 .rw [Yad N]at W
  rw[Yad λh:PW k c e=>N h.1];refine Ab func86 λv=>?_;rw[ntmps86];exact Zfu
structure FZ(f:Fct):Prop where
 k:CZ f.k
 c:ClZ f.c
 e:CrZ f.e
theorem WZ.sm{l:List Nat}(h:WZ l):SmW l:=⟨h.s,by have:=h.n;omega⟩
theorem QZ.qb(h:QZ xh):QB xh:=⟨h.n.sm,h.d.sm⟩
theorem PZ.pw(h:PZ uB):PoW uB:=λt M=>⟨(h.t t M).n.sm,(h.t t M).d.sm⟩
theorem VZ.vw{a:RQ×RQ}(h:VZ a):VW a:=⟨h.1.qb,h.2.qb⟩
theorem CZ.cw{k:Cor}(h:CZ k):CoW k:=⟨h.n,λp G=>(h.e.e p G).pw,λp G=>(h.f.e p G).pw⟩
theorem ClZ.cw{c:Clm}(h:ClZ c):ClW c:=⟨h.kind,h.p.pw,h.n,h.d,h.r,h.o.e,λp G=>(h.l.e p G).pw,h.s.e,λx E i K=>(h.b.e x E i K).vw⟩
theorem CrZ.cw{e:Crt}(h:CrZ e):CrW e:=⟨h.n,λp G=>(h.cof.e p G).pw,λp G=>(h.g.e p G).pw,h.o.e,λt M l J=>((h.c.e t M).e l J).pw,λt M l J=>((h.q.e t M).e l J).pw,λt M l J=>((h.s.e t M).e l J).pw,⟨h.r.l,λq A=>(h.r.q.e q A).qb,λi K q A=>((h.r.r i K).e q A).qb⟩,λx E=>(h.a.e x E).vw,λx E=>⟨(h.sq.e x E).1.qb,(h.sq.e x E).2.pw⟩,λx E i K=>(h.x.e x E i K).qb,λx E i K=>(h.b.e x E i K).vw⟩
theorem FZ.fw{f:Fct}(h:FZ f):FW f:=⟨h.k.cw,h.c.cw,h.e.cw⟩
theorem SO(k:Cor)(c:Clm)(e:Crt)(o:CZ k)(I:ClZ c)(b:CrZ e):Abs prog 36 [AP (Eb k),AP (EE c),AP (DD e)] (ex (.bool (decide (PW k c e)))):=by
 refine Ab func36 λv=>?_;rw[ntmps36];have w:=A0n k c e o I b;exact Zfu
theorem A3u(k:Cor)(c:Clm)(o:CZ k)(I:ClZ c):Abs prog 34 [AP (Eb k),AP (EE c)] (ex (.bool (decide (MR k c)))):=by
 refine Ab func34 λv=>?_;rw[ntmps34];have A:=TO k c o I;exact Zfu
noncomputable def To (f:Fct):List Nat:=if PW f.k f.c f.e then ED f else[]
theorem SP(f:Fct)(o:FZ f)(J:(ED f).length<=1000000000000):Abs prog 14 [AP (El f)] (GX 5 (To f)):=by
 have W:=SO f.k f.c f.e o.k o.c o.e;by_cases h:PW f.k f.c f.e
 .rw [Yak h]at W
  have L:=A25 f o.fw [] ZcZ;rw[To,Yan h];refine Ab func14 λv=>?_;rw[ntmps14];apply Y1;refine Bx ?_;refine Wa<|Y0<|Ai<|Y1 ?_;refine Wq AB ?_;refine Wq AH ?_;refine Wq AB ?_;refine Wq AH ?_;refine Wq AB ?_;refine Wq AH ?_;refine Wq (AK (W)) ?_;refine Wq GR ?_;refine Y0<|Cf<|Ys<|Y1 ?_;refine Al ?_;refine Y0<|Y1 ?_;refine Wq AH ?_
  refine Zgh ?_;rintro _ _ ⟨rfl,rfl⟩;refine Kr ?_;exact Zfu
 .rw [Yad h]at W
  rw[To,Yai h];refine Ab func14 λv=>?_;rw[ntmps14];exact ZiW
noncomputable def A7z (k:Cor):List Nat:=if Og k then FS k else[]
theorem A8g(k:Cor)(o:CZ k)(J:(FS k).length<=1000000000000):Abs prog 20 [AP (Eb k)] (stD (A7z k)):=by
 have W:=Pb k o;by_cases h:Og k
 .rw [Yak h]at W
  have L:=A29 k o.cw [] ZcZ;rw[A7z,Yan h];refine Ab func20 λv=>?_;rw[ntmps20];apply Y1;refine Bx ?_;refine Wa<|Y0<|Ai<|Y1 ?_;refine Wq AH ?_;refine Wq (AK (W)) ?_;refine Wq GR ?_;refine Y0<|Cf<|Ys<|Y1 ?_;refine Al ?_;refine Y0<|Y1 ?_;refine Wq AH ?_
  refine Zgh ?_;rintro _ _ ⟨rfl,rfl⟩;refine ZfO ?_;refine Wq (HJ (l:=FS k) rfl (Aa rfl) (Aa rfl) (Aa rfl)) ?_;exact Zfu
 .rw [Yad h]at W
  rw[A7z,Yai h];refine Ab func20 λv=>?_;rw[ntmps20];exact Zfu
def A3i(kind:Int)(p:List RTm)(o:List (Nat->Int)):List Nat:=(Bo kind++CB p)++Cs o
theorem A8k(kind:Int)(p:List RTm)(o:List (Nat->Int))(C:IW kind)(G:PoW p)(q:Fy (Fz IW) o)(J:(A3i kind p o).length<=1000000000000):Abs prog 21 [AP [ex (.int .i64 kind),KD p,Ep o]] (stD (A3i kind p o)):=by
 simp only[A3i,Yaa]at J;have W:=FN kind C [] Zip;have L:=Qr p G (Bo kind) ZbD;have E:=RA o q (Bo kind++CB p) ZdL;refine Ab func21 λv=>?_;rw[ntmps21];apply Y1;refine Bx ?_;refine Wa<|Y0<|Y1 ?_;refine Al ?_;refine Y0<|Y1 ?_;refine Wq AB ?_;refine Wq Ar ?_
 refine Bj (KA 1 0 5 1 rfl rfl ZbH ZbD rfl rfl rfl rfl) ?_;refine AU [1,2] [] [] (W) Zbz rfl rfl ZbC ZbA ZbH Zby ZbE trivial rfl ?_;rintro _ _ ⟨rfl,rfl⟩;refine ZfO ?_;refine AU [1,2] [] [] (L) Zbz rfl rfl ZbC ZbA ZbH Zby ZbE trivial rfl ?_;rintro _ _ ⟨rfl,rfl⟩;refine ZfO ?_;refine AU [1,2] [] [] (E) Zbz rfl rfl ZbC ZbA ZbH Zby ZbE trivial rfl ?_;rintro _ _ ⟨rfl,rfl⟩;refine ZfO ?_;refine Wq (HJ (l:=A3i kind p o) rfl (Aa rfl) (Aa rfl) (Aa rfl)) ?_;exact Zfu
abbrev ZW(T:Nat)(L:List (Nat×List (Nat->Int))):D:=slD T 1 (L.map λx=>[r5D x.1 x.2])
def Tc(L:List (Nat×List (Nat->Int))):Prop:=∀x∈L,A3y x.2
abbrev Ol(T:Nat)(V:List Int):D:=slD T 1 (V.map λz=>[ex (.int .i8 z)])
def I8(V:List Int):Prop:=∀z∈V,-128<=z/\z<=127
def Ba(Q:List (List Tm)):D:=slD 28 1 (Q.map λP=>[BS P])
theorem EZ(Q:List (List Tm)):Ba Q=Ib (Q.map λP=>P.map EC):=by
 unfold Ba Ib;rw[Ycc];congr 1;exact YaX λP _=>by rw[Kf];rfl
def Fl(L:List (Nat×List (Nat->Int)))(k:Nat):List (List Tm):=(L.take k).map λx=>A1X x.2 2 2 3
abbrev AZ(L:List (Nat×List (Nat->Int))):List (List Tm):=Fl L (min L.length 6)
def AR(V:List Int)(k:Nat):Int:=if V.length=0 then 0 else V.getD (k%V.length) default
theorem Cj{V:List Int}(h:I8 V)(k:Nat):-128<=AR V k/\AR V k<=127:=by
 unfold AR;split
 .omega
 .rename_i c
  have J:k%V.length<V.length:=YaT _ ZbD;rw[Yab,Yac J];exact h _ (Ybt _)
theorem CH(T:Nat)(V:List Int)(e:I8 V)(k:Nat)(C:k<=1000000)(J:V.length<=9223372036854775807):Abs prog 60 [Ol T V,ex (.int .i64 (k:Nat))] (ex (.int .i64 (AR V k))):=by
 by_cases c:V.length=0
 .refine Ab func60 λv=>?_
  rw[ntmps60];refine Go ?_;exact AA (Am (ResV.tmp rfl rfl) (Ae (by rw[AR,Yan c])))
 .have Q:k%V.length<V.length:=YaT _ ZbD
  have o:=Cj e k;rw[AR,Yai c]at o;refine Ab func60 λv=>?_;rw[ntmps60];refine Y1<|Wa<|Y0<|Ai<|Y1<|Wm ?_;refine Wq BK ?_;refine Wq AN ?_;refine Y0<|Cf<|Ys<|Y1<|Wm<|Wm<|Wm ?_;refine Wq BK ?_;refine Wq A6d ?_;refine Wq Dq ?_;refine Wq AT ?_;refine Wq (GE (ao rfl) (Aa rfl) (Aa rfl) ZbY ZbY) ?_;refine Wa<|Y0<|BV ?_
  exact AA (Am (ResV.tmp rfl rfl) (Ae (by simp only[YaR];rw[AR,Yai c])))
theorem Eu(Q:List (List Tm))(i n:Nat)(K:i<=100000)(f:n<=100000)(J:Q.length<=9223372036854775807):Abs prog 62 [Ba Q,ex (.int .i64 (i:Nat)),ex (.int .i64 (n:Nat))] (Ba ((List.range n).map λj=>if Q.length=0 then[]else Q.getD ((i+j)%Q.length) default)):=by
 obtain⟨F,hF⟩:∃F:Nat->List Tm,F=λj=>if Q.length=0 then[]else Q.getD ((i+j)%Q.length) default:=⟨_,rfl⟩
 rw[<-hF];have M:∀k,(List.range (k+1)).map F=(List.range k).map F++[F k]:=λk=>by rw[Ycv,Ycg];rfl
 refine Ab func62 λv=>?_;rw[ntmps62];refine Go ?_;refine AC (λu d=>∃k,k<=n/\u=n-k/\d=⟨[(0,.d (Ba Q)),(1,.d (ex (.int .i64 (i:Nat)))),(2,.d (ex (.int .i64 (n:Nat)))),(7,.own 0),(8,.d (ex (.int .i64 (k:Nat))))],[.row 28 1 (((List.range k).map F).map λP=>[BS P])]⟩) ?le ⟨0,by omega,rfl,rfl⟩ ?round
 case le=>exact Ac ZcN Zdw
 case round=>
  rintro u _ ⟨k,C,rfl,rfl⟩;by_cases A:k<n
  .by_cases c:Q.length=0
   .have t:F k=[]:=by rw [hF];exact Yan c
    refine Ai<|Y1<|Wm<|Wm ?_;refine Wq Bb ?_;refine Y0<|Ct<|Ys<|Ai<|AWp.block<|Y1<|Wm ?_;refine Wq BK ?_;refine Wq Bb ?_;refine Y0<|Ct<|AWp.region<|Wm ?_;refine WQ (Aa rfl) (Aa rfl) rfl rfl rfl rfl rfl ?_
    refine Bj (σ':=⟨[(19,.d (BS [])),(18,.own 0),(0,.d (Ba Q)),(1,.d (ex (.int .i64 (i:Nat)))),(2,.d (ex (.int .i64 (n:Nat)))),(8,.d (ex (.int .i64 (k:Nat))))],[.row 28 1 (((List.range k).map F).map λP=>[BS P])]⟩) ?wk ?_
    case wk=>exact Ac (by exact FrLe.cons rfl (Is rfl (D.le.refl _))<|FrLe.cons rfl (AVle.own rfl)<|Yd<|Yd<|Yd<|Yd<|FrLe.nil) Zdw
    refine Go ?_;refine Ah (n-(k+1)) ZbD ⟨k+1,by omega,rfl,rfl⟩ ?_;exact Ac ZcN (by(refine HpLe.cons (OwLe.row (by rw[M,Ycg,t];rfl)) ?_);exact HpLe.nil)
   .have t:F k=Q.getD ((i+k)%Q.length) default:=by rw [hF];exact Yai c
    have I:(i+k)%Q.length<Q.length:=YaT _ ZbD;refine Go ?_;refine Ah (n-(k+1)) ZbD ⟨k+1,by omega,rfl,rfl⟩ ?_;exact Ac ZcN (by(refine HpLe.cons (OwLe.row (by rw[M,Ycg,t];simp only[YaR];rfl)) ?_);exact HpLe.nil)
  .obtain rfl:k=n:=by omega
   exact Zfu
theorem Ez(T:Nat)(L:List (Nat×List (Nat->Int)))(p:Tc L):Abs prog 59 [ZW T L,ex (.int .i64 (2:Nat)),ex (.int .i64 2),ex (.int .i64 (3:Nat)),ex (.int .i64 (6:Nat))] (Ba (AZ L)):=by
 have M:∀k,k<L.length->Fl L (k+1)=Fl L k++[A1X (L.getD k default).2 2 2 3]:=λk C=>by
  unfold Fl;rw[YcO,Ycg,Yab,Yac C];rfl
 refine Ab func59 λv=>?_;rw[ntmps59];refine Go ?_;refine AC (λu d=>∃k,k<=min L.length 6/\u=min L.length 6-k/\d=⟨[(0,.d (ZW T L)),(1,.d (ex (.int .i64 (2:Nat)))),(2,.d (ex (.int .i64 2))),(3,.d (ex (.int .i64 (3:Nat)))),(4,.d (ex (.int .i64 (6:Nat)))),(11,.own 0),(12,.d (ex (.int .i64 (k:Nat))))],[.row 28 1 ((Fl L k).map λP=>[BS P])]⟩) ?le ⟨0,by omega,rfl,rfl⟩ ?round
 case le=>exact Ac Zeh Zdw
 case round=>
  rintro u _ ⟨k,C,rfl,rfl⟩;by_cases Q:k<min L.length 6
  .have S:k<L.length:=by omega
   have X:A3y (L.getD k default).2:=p _ ZdP;have l:=A3A (L.getD k default).1 (L.getD k default).2 2 3 2 X ZbD ZbD ZbD ZbD;have A:=M k S;have q:(Fl L k).length=min k L.length:=by simp[Fl]
   refine Go ?_;refine Ah (min L.length 6-(k+1)) ZbD ⟨k+1,by omega,rfl,rfl⟩ ?_;exact Ac Zeh (by(refine HpLe.cons (OwLe.row (by rw[A,Ycg];rfl)) ?_);exact HpLe.nil)
  .by_cases S:k<L.length
   .obtain rfl:k=min L.length 6:=by omega
    exact Zfu
   .obtain rfl:k=min L.length 6:=by omega
    exact Zfu
end
