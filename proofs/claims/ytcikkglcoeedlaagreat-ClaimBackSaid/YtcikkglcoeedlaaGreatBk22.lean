/- Part 22. No condition. -/
import Derived.Scope
import Derived.Test.YtcikkglcoeedlaaGreatBk17
import Derived.Test.YtcikkglcoeedlaaGreatBk18
import Derived.Test.YtcikkglcoeedlaaGreatBk19
import Derived.Test.YtcikkglcoeedlaaGreatBk21
set_option linter.unusedSimpArgs false
set_option linter.unusedVariables false
set_option maxRecDepth 100000
set_option maxHeartbeats 2000000
namespace Go.Proofs.YtcikkglcoeedlaaGreat
open _root_.Go.Proofs.Tryz
open Go.RowKit
variable{n:Nat}
theorem A3z(p:Rat):Abs prog 228 [AP (DA p)] (AP (DA (-p))):=by
 refine BI (Ag func228 ZbI ZbI) λs K F J r=>?_;rw[vs1 J];obtain⟨t,L,S,G,C,W,I,l,A,c⟩:=A2I (r 0 ZbS);rw[A];exact(A68 t L S G C W I l p _ c).mono λe N ⟨y,E,Y,v,m,k,n,B,b,i,V⟩=>⟨_,b,V,λj d g _ _=>by subst d;exact A79 g i⟩
def EP(P:List Tm):Nat->Nat
 |0=>0
 |k+1=>Nat.gcd (EP P k) (BA P k).c.num.natAbs
def Dg(P:List Tm):Nat->Nat
 |0=>1
 |k+1=>Dg P k*((BA P k).c.den/Nat.gcd (Dg P k) (BA P k).c.den)
theorem LQ(P:List Tm)(k:Nat):Dg P (k+1)=Nat.lcm (Dg P k) (BA P k).c.den:=by
 rw[Dg,Nat.lcm,Nat.mul_div_assoc _ (YbJ _ _)]
theorem HF(P:List Tm):∀k,0<Dg P k
 |0=>Nat.one_pos
 |k+1=>by rw[LQ];exact Nat.lcm_pos (HF P k) (BA P k).c.den_pos
theorem JT(P:List Tm):∀{k j:Nat},j<k->(BA P j).c.den∣Dg P k
 |k+1,j,h=>by
  rw[LQ];rcases YaG j k with A | A
  .exact YdV (JT P A) (Nat.dvd_lcm_left _ _)
  .obtain rfl:j=k:=by omega
   exact Nat.dvd_lcm_right _ _
theorem XT(P:List Tm){w:Nat}:∀{k:Nat},(∀j,j<k->(BA P j).c.den∣w)->Dg P k∣w
 |0,_=>Nat.one_dvd _
 |k+1,h=>by
  rw[LQ];exact Nat.lcm_dvd (XT P λj a=>h j ZbD) (h k ZbD)
theorem RX(P:List Tm):∀{k j:Nat},j<k->EP P k∣(BA P j).c.num.natAbs
 |k+1,j,h=>by
  rw[EP];rcases YaG j k with A | A
  .exact YdV (YcB _ _) (RX P A)
  .obtain rfl:j=k:=by omega
   exact Zkc
theorem Yh(P:List Tm){d:Nat}:∀{k:Nat},(∀j,j<k->d∣(BA P j).c.num.natAbs)->d∣EP P k
 |0,_=>Nat.dvd_zero d
 |k+1,h=>by
  rw[EP];exact Nat.dvd_gcd (Yh P λj a=>h j ZbD) (h k ZbD)
def KZ(P:List Tm)(L:Nat):Nat->Nat
 |0=>0
 |k+1=>Nat.gcd (KZ P L k) ((BA P k).c.num.natAbs*(L/(BA P k).c.den))
theorem XY(P:List Tm)(L:Nat):∀{k j:Nat},j<k->KZ P L k∣(BA P j).c.num.natAbs*(L/(BA P j).c.den)
 |k+1,j,h=>by
  rw[KZ];rcases YaG j k with A | A
  .exact YdV (YcB _ _) (XY P L A)
  .obtain rfl:j=k:=by omega
   exact Zkc
theorem Yg(P:List Tm)(L:Nat){d:Nat}:∀{k:Nat},(∀j,j<k->d∣(BA P j).c.num.natAbs*(L/(BA P j).c.den))->d∣KZ P L k
 |0,_=>Nat.dvd_zero d
 |k+1,h=>by
  rw[KZ];exact Nat.dvd_gcd (Yg P L λj a=>h j ZbD) (h k ZbD)
theorem A23(P:List Tm)(n:Nat)(c:0<n):KZ P (Dg P n) n=EP P n:=by
 obtain⟨L,p⟩:∃L,L=Dg P n:=⟨_,rfl⟩;have W:0<L:=p▸HF P n;have X:∀j,j<n->(BA P j).c.den∣L:=λj a=>p▸JT P a;rw[<-p];obtain⟨g,F⟩:∃g,g=KZ P L n:=⟨_,rfl⟩;have H:∀j,j<n->g∣(BA P j).c.num.natAbs*(L/(BA P j).c.den):=λj a=>F▸XY P L a;rw[<-F];apply Nat.dvd_antisymm
 .obtain ⟨d,B⟩:∃d,d=Nat.gcd g L:=⟨_,rfl⟩
  have Y:d∣L:=B▸YbJ g L;have Q:d∣g:=B▸YcB g L;have q:0<d:=Nat.pos_of_dvd_of_pos Y W;obtain⟨w,G⟩:=Y;obtain⟨u,S⟩:=Q
  have O:∀j,j<n->(BA P j).c.den∣w:=λj a=>by
   obtain⟨m,C⟩:=H j a;obtain⟨e,b⟩:=X j a;have K:=(BA P j).c.den_pos;have Z:L/(BA P j).c.den=e:=by rw[b,Ydw _ K]
   rw[Z]at C
   have s:d*((BA P j).c.num.natAbs*w)=d*((BA P j).c.den*(u*m)):=by
    calc d * ((BA P j).c.num.natAbs * w) = (BA P j).c.num.natAbs * (d * w) := by rw [Ybj]
     _=(BA P j).c.num.natAbs*((BA P j).c.den*e):=by rw[<-G,b]
     _=(BA P j).c.den*((BA P j).c.num.natAbs*e):=by rw[Ybj]
     _=(BA P j).c.den*(g*m):=by rw[C]
     _=(BA P j).c.den*(d*u*m):=by rw[S]
     _=d*((BA P j).c.den*(u*m)):=by rw[YaY d,Ybj]
   have I:=Yer q s;have N:Nat.Coprime (BA P j).c.den (BA P j).c.num.natAbs:=(BA P j).c.reduced.symm;exact N.dvd_of_dvd_mul_left ⟨u*m,I⟩
  have M:L∣w:=by
   have:=XT P (w:=w) (k:=n) O;rwa [<-p]at this
  have J:d=1:=by
   obtain⟨x,E⟩:=M;have y:0<w:=Ybz λe=>by rw[e,Ycu]at G;omega
   have:w*1=w*(d*x):=by rw[YbB,<-YaY,YaM w d,<-G,<-E]
   exact Nat.eq_one_of_mul_eq_one_right (Yer y this).symm
  refine Yh P λj a=>?_
  have N:Nat.Coprime g (L/(BA P j).c.den):=by
   have A:Nat.gcd g (L/(BA P j).c.den)∣Nat.gcd g L:=Nat.dvd_gcd (YcB _ _) (YdV (YbJ _ _) (Nat.div_dvd_of_dvd (X j a)));rw[<-B,J]at A;exact Nat.dvd_one.1 A
  exact N.dvd_of_dvd_mul_right (H j a)
 .rw [F]
  exact Yg P L λj a=>YdV (RX P a) (Nat.dvd_mul_right _ _)
def Fr(P:List Tm):Int:=if(BA P 0).c.num<0 then -1 else 1
def HT(P:List Tm):Rat:=Rat.divInt (Fr P*(Dg P P.length:Nat)) (EP P P.length:Nat)
def DX(P:List Tm):List Tm:=if P.length=0 then[]else TC (HT P) (λ_=>0) P
theorem KV(P:List Tm){N:Nat}(M:PSz P N):∀k,k<=P.length->(As (Dg P k)).length<=1+k*N
 |0,_=>by
  have:=A9D (z:=1) ZbD ZbD;simpa[Dg]using this
 |k+1,C=>by
  have A:=KV P M k ZbD;have B:(As ((BA P k).c.den/Nat.gcd (Dg P k) (BA P k).c.den)).length<=N:=Yat (BQ (YeG _ _)) (M _ (Dw ZbD)).2;have L:=FQ (x:=(Dg P k:Nat)) (y:=(((BA P k).c.den/Nat.gcd (Dg P k) (BA P k).c.den:Nat):Int)) (N:=1+k*N) (M:=N) (by rw[YaR];exact A) (by rw[YaR];exact B);rw[Dg,YcW];rw[Ycp,YaR,YaR]at L;omega
theorem Nq{P:List Tm}(I:Canon P)(C:n<P.length):0<(BA P n).c.num.natAbs:=by
 have:=I.2 _ (Dw C);have B:(BA P n).c.num≠0:=λe=>this (YeC.1 e);omega
theorem RW(P:List Tm){N:Nat}(M:PSz P N)(I:Canon P):∀k,k<=P.length->(As (EP P k)).length<=N
 |0,_=>by
  have:(As (EP P 0)).length=0:=Bs.2 rfl;omega
 |k+1,C=>by
  rw[EP];exact Yat (BQ (Ydz (Nq I ZbD) (YbJ _ _))) (M _ (Dw ZbD)).1
theorem JQ(P:List Tm)(I:Canon P):∀{k:Nat},0<k->k<=P.length->0<EP P k
 |k+1,_,C=>by
  rw[EP];exact Nat.gcd_pos_of_pos_right _ (Nq I ZbD)
theorem Ns(P:List Tm){N:Nat}(M:PSz P N)(I:Canon P)(c:0<P.length):RSz (HT P) (1+P.length*N):=by
 have A:=KV P M P.length (Yah _);have B:=RW P M I P.length (Yah _);have L:=JQ P I c (Yah _);have S:N<=P.length*N:=Nat.le_mul_of_pos_left N c;refine RSz.divInt ZbD ?_ (by rw[YaR];omega);rw[Ycp,YaR];have:(Fr P).natAbs=1:=by unfold Fr;split<;>rfl
 rw[this,YcA];exact A
theorem A5q(P:List Tm):Fr P≠0:=by unfold Fr;split<;>decide
theorem XG(P:List Tm)(I:Canon P)(c:0<P.length):HT P*((EP P P.length:Nat):Rat)=((Fr P*(Dg P P.length:Nat):Int):Rat):=by
 have L:=JQ P I c (Yah _)
 have:((EP P P.length:Nat):Rat)≠0:=by
  intro e;have:EP P P.length=0:=by exact_mod_cast e
  omega
 unfold HT;rw[Yde];have Z:(((EP P P.length:Nat):Int):Rat)=((EP P P.length:Nat):Rat):=by rfl
 rw[Z,Rat.div_mul_cancel this]
theorem Vw(P:List Tm)(I:Canon P)(c:0<P.length):HT P≠0:=λe=>by
 have A:=HF P P.length;have B:=XG P I c;rw[e,Rat.zero_mul]at B;have L:Fr P*(Dg P P.length:Nat)=0:=by exact_mod_cast B.symm
 exact YeE (A5q P) ZbD L
theorem A59(P:List Tm)(I:Canon P)(C:n<P.length):∃A:Int,HT P*(BA P n).c=(A:Rat)/\A*(EP P P.length:Nat)=Fr P*(BA P n).c.num*((Dg P P.length/(BA P n).c.den:Nat):Int):=by
 have x:=XG P I ZbD;have B:=JQ P I (by omega:0<P.length) (Yah _);obtain⟨g,F⟩:∃g,g=EP P P.length:=⟨_,rfl⟩;have H:(g:Int)∣(BA P n).c.num:=YcU.2 (F▸RX P C);obtain⟨a,p⟩:=H;obtain⟨L,G⟩:∃L,L=Dg P P.length:=⟨_,rfl⟩;have O:(BA P n).c.den∣L:=G▸JT P C;obtain⟨l,J⟩:=O;have M:=(BA P n).c.den_pos;rw[<-F,<-G]at x ⊢;rw[<-F]at B;have Z:L/(BA P n).c.den=l:=by rw[J,Ydw _ M]
 rw[Z]
 have K:((g:Nat):Rat)≠0:=by
  intro e;have:g=0:=by exact_mod_cast e
  omega
 have m:(((BA P n).c.den:Nat):Rat)≠0:=by
  intro e;have:(BA P n).c.den=0:=by exact_mod_cast e
  omega
 have E:(BA P n).c*(((BA P n).c.den:Nat):Rat)=(((BA P n).c.num:Int):Rat):=by
  have h:=Yde (BA P n).c.num ((BA P n).c.den:Nat);rw[Rat.num_divInt_den]at h;have b:(((((BA P n).c.den:Nat):Int)):Rat)=(((BA P n).c.den:Nat):Rat):=rfl;rw[b]at h
  calc (BA P n).c * (((BA P n).c.den : Nat) : Rat) = (((BA P n).c.num : Int) : Rat) / (((BA P n).c.den : Nat) : Rat) * (((BA P n).c.den : Nat) : Rat) := by rw [← h]
   _=_:=Rat.div_mul_cancel m
 refine⟨Fr P*a*l,?_,by rw[p,Int.mul_assoc (Fr P),Int.mul_right_comm];ac_rfl⟩
 have s:HT P*(BA P n).c*(((g:Nat):Rat)*(((BA P n).c.den:Nat):Rat))=((Fr P*a*l:Int):Rat)*(((g:Nat):Rat)*(((BA P n).c.den:Nat):Rat)):=by
  calc HT P * (BA P n).c * (((g : Nat) : Rat) * (((BA P n).c.den : Nat) : Rat)) = (HT P * ((g : Nat) : Rat)) * ((BA P n).c * (((BA P n).c.den : Nat) : Rat)) := by grind
   _=((Fr P*(L:Nat):Int):Rat)*(((BA P n).c.num:Int):Rat):=by rw[x,E]
   _=((Fr P*((BA P n).c.den*l:Nat):Int):Rat)*((((g:Nat):Int)*a:Int):Rat):=by rw[J,p]
   _=_:=by push_cast;grind
 have c:((g:Nat):Rat)*(((BA P n).c.den:Nat):Rat)≠0:=λe=>(Rat.mul_eq_zero.1 e).elim K m;have:=congrArg (· / (((g:Nat):Rat)*(((BA P n).c.den:Nat):Rat))) s;simpa[Rat.mul_div_cancel c]using this
theorem Nr(P:List Tm):(DX P).length=P.length:=by
 unfold DX;split
 .exact Zip
 .rw [TC,Yar]
theorem A5a(P:List Tm)(C:n<P.length):BA (DX P) n=⟨HT P*(BA P n).c,(BA P n).m⟩:=by
 have S:n<(DX P).length:=by rw[Nr];exact C
 unfold BA;rw[Yab,Yac S,Yab,Yac C];simp[DX,show¬P.length=0 by omega,show P≠[]by(intro e;subst e;simp at C),TC,Hg]
theorem A7g(P:List Tm)(I:Canon P)(c:0<P.length):HT (DX P)=1:=by
 have F:∀k,k<P.length->∃A:Int,(BA (DX P) k).c=(A:Rat)/\A*(EP P P.length:Nat)=Fr P*(BA P k).c.num*((Dg P P.length/(BA P k).c.den:Nat):Int):=λk C=>by
  rw[A5a P C];exact A59 P I C
 have L:=JQ P I c (Yah _)
 have J:∀k,k<=P.length->Dg (DX P) k=1:=λk=>by
  induction k with
  |zero=>intro _;rfl
  |succ k u=>
   intro C;obtain⟨A,e,_⟩:=F k ZbD;rw[LQ,u ZbD,e,Rat.den_intCast];rfl
 have r:(Fr P).natAbs=1:=by unfold Fr;split<;>rfl
 have B:∀k,k<=P.length->EP (DX P) k*EP P P.length=KZ P (Dg P P.length) k:=λk=>by
  induction k with
  |zero=>intro _;exact YcC _
  |succ k u=>
   intro C;obtain⟨A,e,h⟩:=F k ZbD;have h:=congrArg Int.natAbs h;rw[Ycp,Ycp,Ycp,r,YcA,YaR,YaR]at h;rw[EP,KZ,<-u ZbD,<-h,e,YeH,Nat.gcd_mul_right]
 have S:=B P.length (Yah _);rw[A23 P P.length c]at S;have n:EP (DX P) P.length=1:=Nat.eq_of_mul_eq_mul_right L (by rw[S,YcA])
 have E:Fr (DX P)=1:=by
  obtain⟨A,e,h⟩:=F 0 c;have f:=Nq I c;have W:0<Dg P P.length/(BA P 0).c.den:=YeM (Ydz (HF _ _) (JT P c)) (BA P 0).c.den_pos
  have Q:0<Fr P*(BA P 0).c.num:=by
   unfold Fr;split<;>omega
  have g:0<A*(EP P P.length:Nat):=by rw[h];exact YeN Q ZbD
  have y:0<A:=Int.pos_of_mul_pos_left g ZbD;unfold Fr;rw[e,YeH,Yai ZbD]
 rw[HT,Nr,J _ (Yah _),n,E];exact ZjC
theorem A58(P:List Tm)(I:Canon P):DX (DX P)=DX P:=by
 by_cases c:P.length=0
 .unfold DX;simp[c]
 .have A:(DX P).length=P.length:=by unfold DX;rw [Yai c, TC, Yar]
  have B:=A7g P I ZbD;rw[DX,Yai ZbD,B,TC];simp[Rat.one_mul,Hg]
theorem A5y(z:Int)(f:(As z.natAbs).length<=4398046511104):Abs prog 292 [AP (Cr z)] (AP (Cr (-z))):=by
 refine BI (Ag func292 ZbI ZbI) λs K F J r=>?_;rw[vs1 J];obtain⟨t,S,B,W,A,c⟩:=DS (r 0 ZbS);rw[A];exact(A7i t S B W z _ c f).mono λe N ⟨y,Y,m,k,b,i,V⟩=>⟨_,b,V,λj d g _ _=>by subst d;exact Hy g i⟩
theorem Xp(x y:Int)(f:(As x.natAbs).length<=4398046511104)(j:(As y.natAbs).length<=4398046511104)(O:0<y):Abs prog 293 [AP (Cr x),AP (Cr y)] (FY [AP (DA (Rat.divInt x y)),ex (.int .i64 0)]):=by
 have Y:y.sign=1:=Ybo O;have h:=FL y;rw[Y]at h;refine Ab func293 λv=>?_;rw[ntmps293];have w:=RH x y f j O;exact ZgQ
theorem A1a(P:List Tm)(N:Nat)(V:PSz P N)(I:Canon P)(K:PIn P 0 65535)(W:N<=1000000)(f:P.length<=100000):Abs prog 242 [BS P] (BS (DX P)):=by
 by_cases c:P.length=0
 .obtain rfl:=YaF c
  refine Ab func242 λv=>?_;rw[ntmps242];exact ZiW
 .have Z:∀k,k<=P.length->(As (Dg P k)).length<=1+k*N:=KV P V
  have U:∀k,k<=P.length->(As (EP P k)).length<=N:=RW P V I;have y:∀k,k<=P.length->k*N<=100000000000:=λk C=>Yat (YaW (Yat C f) W) ZbH;refine Ab func242 λv=>?_;rw[ntmps242];have r:=Vu 0 ZbD ZbD;have j:=Vu 1 ZbD ZbD;refine Go ?_;refine AC (λu d=>∃k,k<=P.length/\u=P.length-k/\d=⟨[(0,.d (BS P)),(3,.ptr 0 0),(4,.ptr 1 0),(20,.d (BS P)),(21,.d (ex (.int .i64 (P.length:Nat)))),(22,.d (ex (.int .i64 (k:Nat))))],[.var 109 ((Cr (EP P k:Nat)).map .d),.var 109 ((Cr (Dg P k:Nat)).map .d)]⟩) ?le ⟨0,by omega,rfl,rfl⟩ ?round
  case le=>exact Ac Zfc Zcu
  case round=>
   rintro u _ ⟨k,C,rfl,rfl⟩;by_cases Q:k<P.length
   .have A:=Z k ZbD
    have B:=U k ZbD;have E:=y k ZbD;have a:=V _ (Dw Q);have xb:=(I.2 _ (Dw Q));have S:(As (BA P k).c.num.natAbs).length<=N:=a.1;have n:(As (BA P k).c.den).length<=N:=a.2;obtain⟨g,G⟩:∃g,g=Nat.gcd (Dg P k) (BA P k).c.den:=⟨_,rfl⟩;have xa:0<g:=by rw[G];exact Nat.gcd_pos_of_pos_left _ (HF P k)
    have H:g∣(BA P k).c.den:=by rw[G];exact Zkc
    have J:(As g).length<=N:=Yat (BQ (Ydz (BA P k).c.den_pos H)) n;obtain⟨q,l⟩:∃q,q=(BA P k).c.den/g:=⟨_,rfl⟩;have X:(As q).length<=N:=Yat (BQ Zen) n;have R:=Qy (EP P k:Nat) (BA P k).c.num ZbY ZbD;rw[show Nat.gcd (EP P k:Int).natAbs (BA P k).c.num.natAbs=EP P (k+1)from rfl]at R;have b:=Qy (Dg P k:Nat) ((BA P k).c.den:Nat) ZbY ZbY;rw[show Nat.gcd (Dg P k:Int).natAbs ((BA P k).c.den:Int).natAbs=g from G.symm]at b;have e:=VJ ((BA P k).c.den:Nat) (g:Nat) ZbY ZbY ZbD (YbW H);rw[show(((BA P k).c.den:Nat):Int)/((g:Nat):Int)=((q:Nat):Int)by rw[l];rfl]at e;have i:=VD (Dg P k:Nat) (q:Nat) ZbY ZbY;rw[show((Dg P k:Nat):Int)*((q:Nat):Int)=((Dg P (k+1):Nat):Int)by rw[l,G,Dg];push_cast;rfl]at i;refine ZfN ?_;exact Ac Zfc Zcu
   .obtain rfl:k=P.length:=by omega
    have A:=Z P.length (Yah _);have B:=U P.length (Yah _);have E:=y P.length (Yah _);have xa:0<EP P P.length:=JQ P I (show 0<P.length by omega) (Yah _);have m:0<P.length:=by omega
    have O:=Ns P V I m;have x:=A19 (HT P) (λ_=>0) P (1+P.length*N) N (Vw P I m) O In8.zero V K (λt M=>by rw[Hg];exact K t M) f ZbD;rw[show TC (HT P) (λ_=>0) P=DX P by rw[DX,Yai c]]at x;obtain⟨L,p⟩:∃L,L=Dg P P.length:=⟨_,rfl⟩;by_cases w:(BA P 0).c.num<0
    .have Y:(BA P 0).c.num.sign=-1:=Ybe w
     have F:=EN (BA P 0).c;rw[Y]at F;have T:=A5y (Dg P P.length:Nat) ZbY;have s:=Xp (-(Dg P P.length:Nat)) (EP P P.length:Nat) (by rw[Yep,YaR];omega) ZbY ZbD;rw[show Rat.divInt (-(Dg P P.length:Nat)) (EP P P.length:Nat)=HT P by rw[HT,Fr,Yan w];congr 1;omega]at s;exact Zfu
    .have Y:0<(BA P 0).c.num.sign\/(BA P 0).c.num.sign=0:=by
      rcases Int.lt_or_eq_of_le (Int.not_lt.1 w)with h | h
      .exact .inl Zfp
      .exact .inr (by rw[<-h];rfl)
     obtain⟨z,o⟩:∃z,z=(BA P 0).c.num.sign:=⟨_,rfl⟩;have F:=EN (BA P 0).c;rw[<-o]at F Y;have s:=Xp (Dg P P.length:Nat) (EP P P.length:Nat) ZbY ZbY ZbD;rw[show Rat.divInt (Dg P P.length:Nat) (EP P P.length:Nat)=HT P by rw[HT,Fr,Yai w,Yeh]]at s;refine Go ?_;exact Yf
theorem A5B(P:List Tm){N:Nat}(M:PSz P N)(I:Canon P):∀k,k<=P.length->(As (KZ P (Dg P P.length) k)).length<=N+(1+P.length*N)
 |0,_=>by
  have:(As (KZ P (Dg P P.length) 0)).length=0:=Bs.2 rfl;omega
 |k+1,C=>by
  have e:(BA P k).c.den∣Dg P P.length:=JT P ZbD;have l:0<Dg P P.length/(BA P k).c.den:=YeM (Ydz (HF P _) e) (BA P k).c.den_pos;have A:=Nq I (show k<P.length by omega);have B:=FQ (x:=(BA P k).c.num) (y:=((Dg P P.length/(BA P k).c.den:Nat):Int)) (N:=N) (M:=1+P.length*N) (M _ (Dw ZbD)).1 (by rw[YaR];exact Yat (BQ (YeG _ _)) (KV P M _ (Yah _)));rw[Ycp,YaR]at B;rw[KZ];exact Yat (BQ (Ydz (YcS A l) (YbJ _ _))) B
theorem A4P(a b:Rat):-a/b=-(a/b):=by rw[Rat.div_def,Rat.div_def,Rat.neg_mul]
theorem YX(P:List Tm)(N:Nat)(O:PSz P N)(I:Canon P)(K:PIn P 0 65535)(R:N<=1000000)(f:P.length<=100000):Abs prog 127 [BS P] (BS (DX P)):=by
 by_cases c:P.length=0
 .obtain rfl:=YaF c
  refine Ab func127 λv=>?_;rw[ntmps127];exact Zfu
 .have W:∀k,k<=P.length->(As (Dg P k)).length<=1+k*N:=KV P O
  have xa:=A5B P O I;have U:∀k,k<=P.length->k*N<=100000000000:=λk C=>Yat (YaW (Yat C f) R) ZbH;have i:0<P.length:=by omega
  refine Ab func127 λv=>?_;rw[ntmps127];have w:=Kt 1 ZbD ZbD;have j:=Kt 0 ZbD ZbD;refine Go ?_;refine AC (λu d=>∃k,k<=P.length/\u=P.length-k/\d=⟨[(0,.d (BS P)),(3,.ptr 0 0),(4,.ptr 1 0),(5,.d (ex (.int .i64 (k:Nat))))],[.var 109 ((Cr (Dg P k:Nat)).map .d),.var 109 ((Cr ((0:Nat):Int)).map .d)]⟩) ?le ⟨0,by omega,rfl,rfl⟩ ?round
  case le=>exact Ac ZdG Zcu
  case round=>
   rintro u _ ⟨k,C,rfl,rfl⟩;by_cases Q:k<P.length
   .have A:=W k ZbD
    have L:=U k ZbD;have X:=O _ (Dw Q);have n:(As (BA P k).c.den).length<=N:=X.2;obtain⟨g,F⟩:∃g,g=Nat.gcd (Dg P k) (BA P k).c.den:=⟨_,rfl⟩;have xc:0<g:=by rw[F];exact Nat.gcd_pos_of_pos_left _ (HF P k)
    have H:g∣(BA P k).c.den:=by rw[F];exact Zkc
    obtain⟨q,l⟩:∃q,q=(BA P k).c.den/g:=⟨_,rfl⟩;have V:(As q).length<=N:=Yat (BQ Zen) n;have Z:=SC (Dg P k:Nat) ((BA P k).c.den:Nat) ZbY ZbY;rw[show Nat.gcd (Dg P k:Int).natAbs ((BA P k).c.den:Int).natAbs=g from F.symm]at Z;have b:=RI ((BA P k).c.den:Nat) (g:Nat) ZbY ZbD (YbW H);rw[show(((BA P k).c.den:Nat):Int)/((g:Nat):Int)=((q:Nat):Int)by rw[l];rfl]at b;have e:=Hl (Dg P k:Nat) (q:Nat) ZbY ZbY;rw[show((Dg P k:Nat):Int)*((q:Nat):Int)=((Dg P (k+1):Nat):Int)by rw[l,F,Dg];push_cast;rfl]at e;refine Go ?_;refine QM (Mz (e:=17) (e2:=18) ZbI (K4 (K4 (K4 (K4 (K4 (AddE.keep (AddE.add (AddE.add (AddE.keep AddE.nil))))))))) ZbI (K4 (K4 (K4 (K4 (K4 (AddE.keep (AddE.add (AddE.add (AddE.keep AddE.nil))))))))) ZbI) [[],[],[(30,0),(31,1)],[(32,2)],[(33,3)],[(34,4)],[],[],[],[(37,7),(38,8)],[(39,9)],[(40,10)],[(41,11)],[(36,6),(42,12)],[(35,5),(43,13)],[(44,14)],[(29,15)],[(29,15)],[(29,15)],[],[]] [[],[],[0,1],[0,1,2],[0,1,2,3],[0,1,2,3,4],[],[],[],[7,8],[7,8,9],[7,8,9,10],[7,8,9,10,11],[6,7,8,9,10,11,12],[0,1,2,3,4,5,6,7,8,9,10,11,12,13],[0,1,2,3,4,5,6,7,8,9,10,11,12,13,14],[0,1,2,3,4,5,6,7,8,9,10,11,12,13,14,15],[0,1,2,3,4,5,6,7,8,9,10,11,12,13,14,15],[0,1,2,3,4,5,6,7,8,9,10,11,12,13,14,15],[],[]] rfl ZbI ZbI ZbI ?_;refine DO ?_;refine ZfN ?_;exact Ac ZdG Zcu
   .obtain rfl:k=P.length:=by omega
    obtain⟨M,a⟩:∃M,M=Dg P P.length:=⟨_,rfl⟩;have x:(As M).length<=1+P.length*N:=a▸W P.length (Yah _);have L:=U P.length (Yah _);have xd:0<M:=a▸HF P _;refine Go ?_;refine AC (λu d=>∃k,k<=P.length/\u=P.length-k/\d=⟨[(0,.d (BS P)),(3,.ptr 0 0),(4,.ptr 1 0),(9,.d (ex (.int .i64 (k:Nat))))],[.var 109 ((Cr (Dg P P.length:Nat)).map .d),.var 109 ((Cr ((KZ P (Dg P P.length) k:Nat):Int)).map .d)]⟩) ?le ⟨0,by omega,rfl,rfl⟩ ?round
    case le=>exact Ac ZdG Zcu
    case round=>
     rintro u _ ⟨k,C,rfl,rfl⟩;by_cases Q:k<P.length
     .have w:=xa k ZbD
      rw[<-a]at w;have X:=O _ (Dw Q);have S:(As (BA P k).c.num.natAbs).length<=N:=X.1;have n:(As (BA P k).c.den).length<=N:=X.2;have s:(BA P k).c.den∣M:=a▸JT P Q;obtain⟨q,l⟩:∃q,q=M/(BA P k).c.den:=⟨_,rfl⟩;have V:(As q).length<=1+P.length*N:=Yat (BQ Zen) x;have xb:=(BA P k).c.den_pos;have J:=RI (M:Nat) ((BA P k).c.den:Nat) ZbY ZbD (by simp only[YaR];exact YbW s);rw[show((M:Nat):Int)/(((BA P k).c.den:Nat):Int)=((q:Nat):Int)by rw[l];rfl]at J;have Z:=Hl (BA P k).c.num (q:Nat) ZbD ZbY;have y:=FQ (x:=(BA P k).c.num) (y:=((q:Nat):Int)) (N:=N) (M:=1+P.length*N) S (by rw[YaR];exact V);have b:=SC (KZ P M k:Nat) ((BA P k).c.num*(q:Nat)) ZbY ZbD;rw[show Nat.gcd ((KZ P M k:Nat):Int).natAbs ((BA P k).c.num*((q:Nat):Int)).natAbs=KZ P M (k+1)by rw[KZ,Ycp,YaR,YaR,l]]at b;rw[<-a];refine Go ?_;refine QM (Mz (e:=10) (e2:=11) ZbI (K4 (K4 (K4 (AddE.keep (AddE.keep (AddE.add (AddE.add (AddE.keep AddE.nil)))))))) ZbI (K4 (K4 (K4 (AddE.keep (AddE.keep (AddE.add (AddE.add (AddE.keep AddE.nil)))))))) ZbI) [[],[],[],[(59,1),(60,2)],[(61,3)],[(62,4)],[(63,5)],[(58,0),(64,6)],[(65,7)],[(57,8)],[(57,8)],[(57,8)],[],[]] [[],[],[],[1,2],[1,2,3],[1,2,3,4],[1,2,3,4,5],[0,1,2,3,4,5,6],[0,1,2,3,4,5,6,7],[0,1,2,3,4,5,6,7,8],[0,1,2,3,4,5,6,7,8],[0,1,2,3,4,5,6,7,8],[],[]] rfl ZbI ZbI ZbI ?_;refine ZfT ?_;refine Dy 10 ?_;refine DO ?_;refine ZfN ?_;exact Ac ZdG Zcu
     .obtain rfl:k=P.length:=by omega
      rw[A23 P P.length i];have xc:0<EP P P.length:=JQ P I i (Yah _);have p:(As (EP P P.length)).length<=N:=RW P O I _ (Yah _);have G:=Ns P O I i;have T:=MS (HT P) (λ_=>0) P (1+P.length*N) N (Vw P I i) G In8.zero O K (λt B=>by rw[Hg];exact K t B) f ZbD;rw[show TC (HT P) (λ_=>0) P=DX P by rw[DX,Yai c]]at T;have m:=A2U (Dg P P.length:Nat) (EP P P.length:Nat) (by simp only[YaR];rw[<-a];omega) ZbY ZbD;by_cases r:(BA P 0).c.num<0
      .have Y:(BA P 0).c.num.sign=-1:=Ybe r
       have E:=Gr (BA P 0).c;rw[Y]at E;have cn:=A3z (Rat.divInt (Dg P P.length:Nat) (EP P P.length:Nat));rw[show -(Rat.divInt (Dg P P.length:Nat) (EP P P.length:Nat))=HT P by rw[HT,Fr,Yan r,Yde,Yde,<-A4P];congr 1;push_cast;grind]at cn;exact Zfu
      .obtain ⟨z,o⟩:∃z,z=(BA P 0).c.num.sign:=⟨_,rfl⟩
       have Y:0<z\/z=0:=by
        rw[o];rcases Int.lt_or_eq_of_le (Int.not_lt.1 r)with h | h
        .exact .inl Zfp
        .exact .inr (by rw[<-h];rfl)
       have E:=Gr (BA P 0).c;rw[<-o]at E;rw[show Rat.divInt (Dg P P.length:Nat) (EP P P.length:Nat)=HT P by rw[HT,Fr,Yai r,Yeh]]at m;exact Zfu
