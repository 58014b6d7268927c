/- Part 25 of the proof of claimAnswers_holds. No condition. -/
import Derived.Scope
import Derived.Test.YtcikkglcoeedlaaGreatCa20
import Derived.Test.YtcikkglcoeedlaaGreatCa21
import Derived.Test.YtcikkglcoeedlaaGreatCa22
import Derived.Test.YtcikkglcoeedlaaGreatCa24
set_option linter.unusedSimpArgs false
set_option linter.unusedVariables false
set_option maxRecDepth 100000
set_option maxHeartbeats 2000000
namespace Go.Proofs.YtcikkglcoeedlaaGreat
open Go.RowKit
theorem A0w(p:Rat):Abs Tryz.prog 228 [AJ (Eh p)] (AJ (Eh (-p))):=by
 refine Bw (Ag Tryz.func228 ZbM ZbM) λs G H K q=>?_;rw[Zm K];obtain⟨C,I,w,Z,E,A,a,F,B,g⟩:=ZI (q 0 ZbV);rw[B];exact(A2v C I w Z E A a F p _ g).mono λe N ⟨y,z,Y,J,m,k,d,b,X,i,S⟩=>⟨_,X,S,λj W O _ _=>by subst W;exact A3s O i⟩
def EZ(P:List Tm):Nat->Nat
 |0=>0
 |k+1=>Nat.gcd (EZ P k) (BJ P k).c.num.natAbs
def Dc(P:List Tm):Nat->Nat
 |0=>1
 |k+1=>Dc P k*((BJ P k).c.den/Nat.gcd (Dc P k) (BJ P k).c.den)
theorem MS(P:List Tm)(k:Nat):Dc P (k+1)=Nat.lcm (Dc P k) (BJ P k).c.den:=by
 rw[Dc,Nat.lcm,Nat.mul_div_assoc _ (Nat.gcd_dvd_right _ _)]
theorem Hu(P:List Tm):∀k,0<Dc P k
 |0=>Nat.one_pos
 |k+1=>by rw[MS];exact Nat.lcm_pos (Hu P k) (BJ P k).c.den_pos
theorem LN(P:List Tm):∀{k j:Nat},j<k->(BJ P j).c.den∣Dc P k
 |k+1,j,h=>by
  rw[MS];rcases Nat.lt_or_ge j k with A | A
  .exact Nat.dvd_trans (LN P A) (Nat.dvd_lcm_left _ _)
  .obtain rfl:j=k:=by omega
   exact Nat.dvd_lcm_right _ _
theorem UN(P:List Tm){w:Nat}:∀{k:Nat},(∀j,j<k->(BJ P j).c.den∣w)->Dc P k∣w
 |0,_=>Nat.one_dvd _
 |k+1,h=>by
  rw[MS];exact Nat.lcm_dvd (UN P λj e=>h j ZbK) (h k ZbK)
theorem UR(P:List Tm):∀{k j:Nat},j<k->EZ P k∣(BJ P j).c.num.natAbs
 |k+1,j,h=>by
  rw[EZ];rcases Nat.lt_or_ge j k with A | A
  .exact Nat.dvd_trans (Nat.gcd_dvd_left _ _) (UR P A)
  .obtain rfl:j=k:=by omega
   exact ZiX
theorem UY(P:List Tm){d:Nat}:∀{k:Nat},(∀j,j<k->d∣(BJ P j).c.num.natAbs)->d∣EZ P k
 |0,_=>Nat.dvd_zero d
 |k+1,h=>by
  rw[EZ];exact Nat.dvd_gcd (UY P λj e=>h j ZbK) (h k ZbK)
def Ld(P:List Tm)(L:Nat):Nat->Nat
 |0=>0
 |k+1=>Nat.gcd (Ld P L k) ((BJ P k).c.num.natAbs*(L/(BJ P k).c.den))
theorem UQ(P:List Tm)(L:Nat):∀{k j:Nat},j<k->Ld P L k∣(BJ P j).c.num.natAbs*(L/(BJ P j).c.den)
 |k+1,j,h=>by
  rw[Ld];rcases Nat.lt_or_ge j k with A | A
  .exact Nat.dvd_trans (Nat.gcd_dvd_left _ _) (UQ P L A)
  .obtain rfl:j=k:=by omega
   exact ZiX
theorem UX(P:List Tm)(L:Nat){d:Nat}:∀{k:Nat},(∀j,j<k->d∣(BJ P j).c.num.natAbs*(L/(BJ P j).c.den))->d∣Ld P L k
 |0,_=>Nat.dvd_zero d
 |k+1,h=>by
  rw[Ld];exact Nat.dvd_gcd (UX P L λj e=>h j ZbK) (h k ZbK)
theorem A3O(P:List Tm)(n:Nat)(C:0<n):Ld P (Dc P n) n=EZ P n:=by
 obtain⟨L,T⟩:∃L,L=Dc P n:=⟨_,rfl⟩;have Y:0<L:=T▸Hu P n;have O:∀j,j<n->(BJ P j).c.den∣L:=λj B=>T▸LN P B;rw[<-T];obtain⟨g,I⟩:∃g,g=Ld P L n:=⟨_,rfl⟩;have V:∀j,j<n->g∣(BJ P j).c.num.natAbs*(L/(BJ P j).c.den):=λj B=>I▸UQ P L B;rw[<-I];apply Nat.dvd_antisymm
 .obtain ⟨d,Z⟩:∃d,d=Nat.gcd g L:=⟨_,rfl⟩
  have N:d∣L:=Z▸Nat.gcd_dvd_right g L;have Q:d∣g:=Z▸Nat.gcd_dvd_left g L;have i:0<d:=Nat.pos_of_dvd_of_pos N Y;obtain⟨w,W⟩:=N;obtain⟨u,F⟩:=Q
  have a:∀j,j<n->(BJ P j).c.den∣w:=λj B=>by
   obtain⟨m,t⟩:=V j B;obtain⟨e,X⟩:=O j B;have K:=(BJ P j).c.den_pos;have c:L/(BJ P j).c.den=e:=by rw[X,Nat.mul_div_cancel_left _ K]
   rw[c]at t
   have v:d*((BJ P j).c.num.natAbs*w)=d*((BJ P j).c.den*(u*m)):=by
    calc d * ((BJ P j).c.num.natAbs * w) = (BJ P j).c.num.natAbs * (d * w) := by rw [Nat.mul_left_comm]
     _=(BJ P j).c.num.natAbs*((BJ P j).c.den*e):=by rw[<-W,X]
     _=(BJ P j).c.den*((BJ P j).c.num.natAbs*e):=by rw[Nat.mul_left_comm]
     _=(BJ P j).c.den*(g*m):=by rw[t]
     _=(BJ P j).c.den*(d*u*m):=by rw[F]
     _=d*((BJ P j).c.den*(u*m)):=by rw[Nat.mul_assoc d,Nat.mul_left_comm]
   have G:=Nat.eq_of_mul_eq_mul_left i v;have M:Nat.Coprime (BJ P j).c.den (BJ P j).c.num.natAbs:=(BJ P j).c.reduced.symm;exact M.dvd_of_dvd_mul_left ⟨u*m,G⟩
  have b:L∣w:=by
   have:=UN P (w:=w) (k:=n) a;rwa [<-T]at this
  have s:d=1:=by
   obtain⟨x,E⟩:=b;have J:0<w:=Nat.pos_of_ne_zero λe=>by rw[e,Nat.mul_zero]at W;omega
   have:w*1=w*(d*x):=by rw[Nat.mul_one,<-Nat.mul_assoc,Nat.mul_comm w d,<-W,<-E]
   exact Nat.eq_one_of_mul_eq_one_right (Nat.eq_of_mul_eq_mul_left J this).symm
  refine UY P λj B=>?_
  have M:Nat.Coprime g (L/(BJ P j).c.den):=by
   have A:Nat.gcd g (L/(BJ P j).c.den)∣Nat.gcd g L:=Nat.dvd_gcd (Nat.gcd_dvd_left _ _) (Nat.dvd_trans (Nat.gcd_dvd_right _ _) (Nat.div_dvd_of_dvd (O j B)));rw[<-Z,s]at A;exact Nat.dvd_one.1 A
  exact M.dvd_of_dvd_mul_right (V j B)
 .rw [I]
  exact UX P L λj B=>Nat.dvd_trans (UR P B) (Nat.dvd_mul_right _ _)
def JC(P:List Tm):Int:=if(BJ P 0).c.num<0 then -1 else 1
def Jz(P:List Tm):Rat:=Rat.divInt (JC P*(Dc P P.length:Nat)) (EZ P P.length:Nat)
def FC(P:List Tm):List Tm:=if P.length=0 then[]else Uc (Jz P) (λ_=>0) P
theorem JD(P:List Tm){N:Nat}(R:PSz P N):∀k,k<=P.length->(Aq (Dc P k)).length<=1+k*N
 |0,_=>by
  have:=A5m (z:=1) ZbK ZbK;simpa[Dc]using this
 |k+1,C=>by
  have A:=JD P R k ZbK;have B:(Aq ((BJ P k).c.den/Nat.gcd (Dc P k) (BJ P k).c.den)).length<=N:=Nat.le_trans (BH (Nat.div_le_self _ _)) (R _ (CV ZbK)).2;have L:=EV (x:=(Dc P k:Nat)) (y:=(((BJ P k).c.den/Nat.gcd (Dc P k) (BJ P k).c.den:Nat):Int)) (N:=1+k*N) (M:=N) (by rw[Int.natAbs_natCast];exact A) (by rw[Int.natAbs_natCast];exact B);rw[Dc,Nat.succ_mul];rw[Int.natAbs_mul,Int.natAbs_natCast,Int.natAbs_natCast]at L;omega
theorem Pz{P:List Tm}(I:Canon P){k:Nat}(C:k<P.length):0<(BJ P k).c.num.natAbs:=by
 have:=I.2 _ (CV C);have B:(BJ P k).c.num≠0:=λe=>this (Rat.num_eq_zero.1 e);omega
theorem PP(P:List Tm){N:Nat}(R:PSz P N)(I:Canon P):∀k,k<=P.length->(Aq (EZ P k)).length<=N
 |0,_=>by
  have:(Aq (EZ P 0)).length=0:=Ba.2 rfl;omega
 |k+1,C=>by
  rw[EZ];exact Nat.le_trans (BH (Nat.le_of_dvd (Pz I ZbK) (Nat.gcd_dvd_right _ _))) (R _ (CV ZbK)).1
theorem LI(P:List Tm)(I:Canon P):∀{k:Nat},0<k->k<=P.length->0<EZ P k
 |k+1,_,C=>by
  rw[EZ];exact Nat.gcd_pos_of_pos_right _ (Pz I ZbK)
theorem Ot(P:List Tm){N:Nat}(R:PSz P N)(I:Canon P)(g:0<P.length):RSz (Jz P) (1+P.length*N):=by
 have A:=JD P R P.length (Nat.le_refl _);have B:=PP P R I P.length (Nat.le_refl _);have L:=LI P I g (Nat.le_refl _);have V:N<=P.length*N:=Nat.le_mul_of_pos_left N g;refine RSz.divInt ZbK ?_ (by rw[Int.natAbs_natCast];omega);rw[Int.natAbs_mul,Int.natAbs_natCast];have:(JC P).natAbs=1:=by unfold JC;split<;>rfl
 rw[this,Nat.one_mul];exact A
theorem A1Q(P:List Tm):JC P≠0:=by unfold JC;split<;>decide
theorem A1E(P:List Tm)(I:Canon P)(g:0<P.length):Jz P*((EZ P P.length:Nat):Rat)=((JC P*(Dc P P.length:Nat):Int):Rat):=by
 have L:=LI P I g (Nat.le_refl _)
 have:((EZ P P.length:Nat):Rat)≠0:=by
  intro e;have:EZ P P.length=0:=by exact_mod_cast e
  omega
 unfold Jz;rw[Rat.divInt_eq_div];have c:(((EZ P P.length:Nat):Int):Rat)=((EZ P P.length:Nat):Rat):=by rfl
 rw[c,Rat.div_mul_cancel this]
theorem YL(P:List Tm)(I:Canon P)(g:0<P.length):Jz P≠0:=λe=>by
 have A:=Hu P P.length;have B:=A1E P I g;rw[e,Rat.zero_mul]at B;have L:JC P*(Dc P P.length:Nat)=0:=by exact_mod_cast B.symm
 exact Int.mul_ne_zero (A1Q P) ZbK L
theorem YK(P:List Tm):(FC P).length=P.length:=by
 unfold FC;split
 .exact Zhz
 .rw [Uc,List.length_map]
theorem A1V(z:Int)(i:(Aq z.natAbs).length<=4398046511104):Abs Tryz.prog 292 [AJ (BW z)] (AJ (BW (-z))):=by
 refine Bw (Ag Tryz.func292 ZbM ZbM) λs G H K q=>?_;rw[Zm K];obtain⟨E,w,F,B,C,g⟩:=Dk (q 0 ZbV);rw[C];exact(A3A E w F B z _ g i).mono λe N ⟨y,Y,m,k,X,A,S⟩=>⟨_,X,S,λj W O _ _=>by subst W;exact Gn O A⟩
theorem Un(x y:Int)(i:(Aq x.natAbs).length<=4398046511104)(b:(Aq y.natAbs).length<=4398046511104)(O:0<y):Abs Tryz.prog 293 [AJ (BW x),AJ (BW y)] (EY [AJ (Eh (Rat.divInt x y)),ex (.int .i64 0)]):=by
 have f:y.sign=1:=Int.sign_eq_one_of_pos O;have a:=EO y;rw[f]at a;refine Ab Tryz.func293 λA=>?_;rw[Tryz.ntmps293];have B:=PD x y i b O;exact Zgc
theorem XP(P:List Tm)(N:Nat)(W:PSz P N)(I:Canon P)(M:PIn P 0 65535)(Y:N<=1000000)(i:P.length<=100000):Abs Tryz.prog 242 [BQ P] (BQ (FC P)):=by
 by_cases F:P.length=0
 .obtain rfl:=List.eq_nil_of_length_eq_zero F
  refine Ab Tryz.func242 λO=>?_;rw[Tryz.ntmps242];refine Go ?_;exact Ak (Ah (ResV.tmp rfl rfl) (Bf))
 .have n:∀k,k<=P.length->(Aq (Dc P k)).length<=1+k*N:=JD P W
  have H:∀k,k<=P.length->(Aq (EZ P k)).length<=N:=PP P W I;have x:∀k,k<=P.length->k*N<=100000000000:=λk C=>Nat.le_trans (Nat.mul_le_mul (Nat.le_trans C i) Y) ZbN;refine Ab Tryz.func242 λO=>?_;rw[Tryz.ntmps242];have p:=MK 0 ZbK ZbK;have s:=MK 1 ZbK ZbK;refine Go ?_;refine Az (λK d=>∃k,k<=P.length/\K=P.length-k/\d=⟨[(0,.d (BQ P)),(3,.ptr 0 0),(4,.ptr 1 0),(20,.d (BQ P)),(21,.d (ex (.int .i64 (P.length:Nat)))),(22,.d (ex (.int .i64 (k:Nat))))],[.var 109 ((BW (EZ P k:Nat)).map .d),.var 109 ((BW (Dc P k:Nat)).map .d)]⟩) ?le ⟨0,by omega,rfl,rfl⟩ ?round
  case le=>exact Ad ZeL Zcs
  case round=>
   rintro K _ ⟨k,C,rfl,rfl⟩;by_cases Q:k<P.length
   .have A:=n k ZbK
    have B:=H k ZbK;have E:=x k ZbK;have b:=W _ (CV Q);have xb:=(I.2 _ (CV Q));have V:(Aq (BJ P k).c.num.natAbs).length<=N:=b.1;have m:(Aq (BJ P k).c.den).length<=N:=b.2;obtain⟨g,S⟩:∃g,g=Nat.gcd (Dc P k) (BJ P k).c.den:=⟨_,rfl⟩;have xa:0<g:=by rw[S];exact Nat.gcd_pos_of_pos_left _ (Hu P k)
    have X:g∣(BJ P k).c.den:=by rw[S];exact ZiX
    have G:(Aq g).length<=N:=Nat.le_trans (BH (Nat.le_of_dvd (BJ P k).c.den_pos X)) m;obtain⟨q,w⟩:∃q,q=(BJ P k).c.den/g:=⟨_,rfl⟩;have Z:(Aq q).length<=N:=Nat.le_trans (BH Zec) m;have c:=Oz (EZ P k:Nat) (BJ P k).c.num ZbZ ZbK;rw[show Nat.gcd (EZ P k:Int).natAbs (BJ P k).c.num.natAbs=EZ P (k+1)from rfl]at c;have j:=Oz (Dc P k:Nat) ((BJ P k).c.den:Nat) ZbZ ZbZ;rw[show Nat.gcd (Dc P k:Int).natAbs ((BJ P k).c.den:Int).natAbs=g from S.symm]at j;have l:=Te ((BJ P k).c.den:Nat) (g:Nat) ZbZ ZbZ ZbK (Nat.mod_eq_zero_of_dvd X);rw[show(((BJ P k).c.den:Nat):Int)/((g:Nat):Int)=((q:Nat):Int)by rw[w];rfl]at l;have r:=SX (Dc P k:Nat) (q:Nat) ZbZ ZbZ;rw[show((Dc P k:Nat):Int)*((q:Nat):Int)=((Dc P (k+1):Nat):Int)by rw[w,S,Dc];push_cast;rfl]at r;refine Zfv ?_;exact Ad ZeL Zcs
   .obtain rfl:k=P.length:=by omega
    have A:=n P.length (Nat.le_refl _);have B:=H P.length (Nat.le_refl _);have E:=x P.length (Nat.le_refl _);have xa:0<EZ P P.length:=LI P I (show 0<P.length by omega) (Nat.le_refl _);have o:0<P.length:=by omega
    have T:=Ot P W I o;have U:=XN (Jz P) (λ_=>0) P (1+P.length*N) N (YL P I o) T In8.zero W M (λt J=>by rw[Ke];exact M t J) i ZbK;rw[show Uc (Jz P) (λ_=>0) P=FC P by rw[FC,if_neg F]]at U;obtain⟨L,e⟩:∃L,L=Dc P P.length:=⟨_,rfl⟩;by_cases u:(BJ P 0).c.num<0
    .have f:(BJ P 0).c.num.sign=-1:=Int.sign_eq_neg_one_of_neg u
     have a:=DJ (BJ P 0).c;rw[f]at a;have y:=A1V (Dc P P.length:Nat) ZbZ;have v:=Un (-(Dc P P.length:Nat)) (EZ P P.length:Nat) (by rw[Int.natAbs_neg,Int.natAbs_natCast];omega) ZbZ ZbK;rw[show Rat.divInt (-(Dc P P.length:Nat)) (EZ P P.length:Nat)=Jz P by rw[Jz,JC,if_pos u];congr 1;omega]at v;exact Zfi
    .have f:0<(BJ P 0).c.num.sign\/(BJ P 0).c.num.sign=0:=by
      rcases Int.lt_or_eq_of_le (Int.not_lt.1 u)with h | h
      .exact .inl ZeX
      .exact .inr (by rw[<-h];rfl)
     obtain⟨z,R⟩:∃z,z=(BJ P 0).c.num.sign:=⟨_,rfl⟩;have a:=DJ (BJ P 0).c;rw[<-R]at a f;have v:=Un (Dc P P.length:Nat) (EZ P P.length:Nat) ZbZ ZbZ ZbK;rw[show Rat.divInt (Dc P P.length:Nat) (EZ P P.length:Nat)=Jz P by rw[Jz,JC,if_neg u,Int.one_mul]]at v;refine Go ?_;exact Yf
theorem A20(P:List Tm){N:Nat}(R:PSz P N)(I:Canon P):∀k,k<=P.length->(Aq (Ld P (Dc P P.length) k)).length<=N+(1+P.length*N)
 |0,_=>by
  have:(Aq (Ld P (Dc P P.length) 0)).length=0:=Ba.2 rfl;omega
 |k+1,C=>by
  have Z:(BJ P k).c.den∣Dc P P.length:=LN P ZbK;have w:0<Dc P P.length/(BJ P k).c.den:=Nat.div_pos (Nat.le_of_dvd (Hu P _) Z) (BJ P k).c.den_pos;have A:=Pz I (show k<P.length by omega);have B:=EV (x:=(BJ P k).c.num) (y:=((Dc P P.length/(BJ P k).c.den:Nat):Int)) (N:=N) (M:=1+P.length*N) (R _ (CV ZbK)).1 (by rw[Int.natAbs_natCast];exact Nat.le_trans (BH (Nat.div_le_self _ _)) (JD P R _ (Nat.le_refl _)));rw[Int.natAbs_mul,Int.natAbs_natCast]at B;rw[Ld];exact Nat.le_trans (BH (Nat.le_of_dvd (Nat.mul_pos A w) (Nat.gcd_dvd_right _ _))) B
theorem A1n(a b:Rat):-a/b=-(a/b):=by rw[Rat.div_def,Rat.div_def,Rat.neg_mul]
theorem VA(P:List Tm)(N:Nat)(R:PSz P N)(I:Canon P)(B:PIn P 0 65535)(X:N<=1000000)(i:P.length<=100000):Abs Tryz.prog 127 [BQ P] (BQ (FC P)):=by
 by_cases E:P.length=0
 .obtain rfl:=List.eq_nil_of_length_eq_zero E
  refine Ab Tryz.func127 λG=>?_;rw[Tryz.ntmps127];exact Zfi
 .have n:∀k,k<=P.length->(Aq (Dc P k)).length<=1+k*N:=JD P R
  have U:=A20 P R I;have x:∀k,k<=P.length->k*N<=100000000000:=λk C=>Nat.le_trans (Nat.mul_le_mul (Nat.le_trans C i) X) ZbN;have j:0<P.length:=by omega
  refine Ab Tryz.func127 λG=>?_;rw[Tryz.ntmps127];have o:=IV 1 ZbK ZbK;have l:=IV 0 ZbK ZbK;refine Go ?_;refine Az (λF d=>∃k,k<=P.length/\F=P.length-k/\d=⟨[(0,.d (BQ P)),(3,.ptr 0 0),(4,.ptr 1 0),(5,.d (ex (.int .i64 (k:Nat))))],[.var 109 ((BW (Dc P k:Nat)).map .d),.var 109 ((BW ((0:Nat):Int)).map .d)]⟩) ?le ⟨0,by omega,rfl,rfl⟩ ?round
  case le=>exact Ad Zdy Zcs
  case round=>
   rintro F _ ⟨k,C,rfl,rfl⟩;by_cases Q:k<P.length
   .have A:=n k ZbK
    have L:=x k ZbK;have Y:=R _ (CV Q);have m:(Aq (BJ P k).c.den).length<=N:=Y.2;obtain⟨g,O⟩:∃g,g=Nat.gcd (Dc P k) (BJ P k).c.den:=⟨_,rfl⟩;have xb:0<g:=by rw[O];exact Nat.gcd_pos_of_pos_left _ (Hu P k)
    have S:g∣(BJ P k).c.den:=by rw[O];exact ZiX
    obtain⟨q,w⟩:∃q,q=(BJ P k).c.den/g:=⟨_,rfl⟩;have W:(Aq q).length<=N:=Nat.le_trans (BH Zec) m;have Z:=Qv (Dc P k:Nat) ((BJ P k).c.den:Nat) ZbZ ZbZ;rw[show Nat.gcd (Dc P k:Int).natAbs ((BJ P k).c.den:Int).natAbs=g from O.symm]at Z;have b:=PE ((BJ P k).c.den:Nat) (g:Nat) ZbZ ZbK (Nat.mod_eq_zero_of_dvd S);rw[show(((BJ P k).c.den:Nat):Int)/((g:Nat):Int)=((q:Nat):Int)by rw[w];rfl]at b;have p:=FV (Dc P k:Nat) (q:Nat) ZbZ ZbZ;rw[show((Dc P k:Nat):Int)*((q:Nat):Int)=((Dc P (k+1):Nat):Int)by rw[w,O,Dc];push_cast;rfl]at p;refine Go ?_;refine OK (KT (e:=17) (e2:=18) ZbM (K4 (K4 (K4 (K4 (K4 (AddE.keep (AddE.add (AddE.add (AddE.keep AddE.nil))))))))) ZbM (K4 (K4 (K4 (K4 (K4 (AddE.keep (AddE.add (AddE.add (AddE.keep AddE.nil))))))))) ZbM) [[],[],[(30,0),(31,1)],[(32,2)],[(33,3)],[(34,4)],[],[],[],[(37,7),(38,8)],[(39,9)],[(40,10)],[(41,11)],[(36,6),(42,12)],[(35,5),(43,13)],[(44,14)],[(29,15)],[(29,15)],[(29,15)],[],[]] [[],[],[0,1],[0,1,2],[0,1,2,3],[0,1,2,3,4],[],[],[],[7,8],[7,8,9],[7,8,9,10],[7,8,9,10,11],[6,7,8,9,10,11,12],[0,1,2,3,4,5,6,7,8,9,10,11,12,13],[0,1,2,3,4,5,6,7,8,9,10,11,12,13,14],[0,1,2,3,4,5,6,7,8,9,10,11,12,13,14,15],[0,1,2,3,4,5,6,7,8,9,10,11,12,13,14,15],[0,1,2,3,4,5,6,7,8,9,10,11,12,13,14,15],[],[]] rfl ZbM ZbM ZbM ?_;refine Zfn ?_;exact ZgU
   .obtain rfl:k=P.length:=by omega
    obtain⟨M,e⟩:∃M,M=Dc P P.length:=⟨_,rfl⟩;have xc:(Aq M).length<=1+P.length*N:=e▸n P.length (Nat.le_refl _);have L:=x P.length (Nat.le_refl _);have xd:0<M:=e▸Hu P _;refine Go ?_;refine Az (λF d=>∃k,k<=P.length/\F=P.length-k/\d=⟨[(0,.d (BQ P)),(3,.ptr 0 0),(4,.ptr 1 0),(9,.d (ex (.int .i64 (k:Nat))))],[.var 109 ((BW (Dc P P.length:Nat)).map .d),.var 109 ((BW ((Ld P (Dc P P.length) k:Nat):Int)).map .d)]⟩) ?le ⟨0,by omega,rfl,rfl⟩ ?round
    case le=>exact Ad Zdy Zcs
    case round=>
     rintro F _ ⟨k,C,rfl,rfl⟩;by_cases Q:k<P.length
     .have o:=U k ZbK
      rw[<-e]at o;have Y:=R _ (CV Q);have V:(Aq (BJ P k).c.num.natAbs).length<=N:=Y.1;have m:(Aq (BJ P k).c.den).length<=N:=Y.2;have v:(BJ P k).c.den∣M:=e▸LN P Q;obtain⟨q,w⟩:∃q,q=M/(BJ P k).c.den:=⟨_,rfl⟩;have W:(Aq q).length<=1+P.length*N:=Nat.le_trans (BH Zec) xc;have xa:=(BJ P k).c.den_pos;have c:=PE (M:Nat) ((BJ P k).c.den:Nat) ZbZ ZbK (by simp only[Int.natAbs_natCast];exact Nat.mod_eq_zero_of_dvd v);rw[show((M:Nat):Int)/(((BJ P k).c.den:Nat):Int)=((q:Nat):Int)by rw[w];rfl]at c;have Z:=FV (BJ P k).c.num (q:Nat) ZbK ZbZ;have u:=EV (x:=(BJ P k).c.num) (y:=((q:Nat):Int)) (N:=N) (M:=1+P.length*N) V (by rw[Int.natAbs_natCast];exact W);have b:=Qv (Ld P M k:Nat) ((BJ P k).c.num*(q:Nat)) ZbZ ZbK;rw[show Nat.gcd ((Ld P M k:Nat):Int).natAbs ((BJ P k).c.num*((q:Nat):Int)).natAbs=Ld P M (k+1)by rw[Ld,Int.natAbs_mul,Int.natAbs_natCast,Int.natAbs_natCast,w]]at b;rw[<-e];refine Go ?_;refine OK (KT (e:=10) (e2:=11) ZbM (K4 (K4 (K4 (AddE.keep (AddE.keep (AddE.add (AddE.add (AddE.keep AddE.nil)))))))) ZbM (K4 (K4 (K4 (AddE.keep (AddE.keep (AddE.add (AddE.add (AddE.keep AddE.nil)))))))) ZbM) [[],[],[],[(59,1),(60,2)],[(61,3)],[(62,4)],[(63,5)],[(58,0),(64,6)],[(65,7)],[(57,8)],[(57,8)],[(57,8)],[],[]] [[],[],[],[1,2],[1,2,3],[1,2,3,4],[1,2,3,4,5],[0,1,2,3,4,5,6],[0,1,2,3,4,5,6,7],[0,1,2,3,4,5,6,7,8],[0,1,2,3,4,5,6,7,8],[0,1,2,3,4,5,6,7,8],[],[]] rfl ZbM ZbM ZbM ?_;refine Zfn ?_;refine Dy 10 ?_;refine Zfn ?_;exact ZgU
     .obtain rfl:k=P.length:=by omega
      rw[A3O P P.length j];have xb:0<EZ P P.length:=LI P I j (Nat.le_refl _);have H:(Aq (EZ P P.length)).length<=N:=PP P R I _ (Nat.le_refl _);have T:=Ot P R I j;have cT:=Lm (Jz P) (λ_=>0) P (1+P.length*N) N (YL P I j) T In8.zero R B (λt J=>by rw[Ke];exact B t J) i ZbK;rw[show Uc (Jz P) (λ_=>0) P=FC P by rw[FC,if_neg E]]at cT;have s:=ZT (Dc P P.length:Nat) (EZ P P.length:Nat) (by simp only[Int.natAbs_natCast];rw[<-e];omega) ZbZ ZbK;by_cases r:(BJ P 0).c.num<0
      .have f:(BJ P 0).c.num.sign=-1:=Int.sign_eq_neg_one_of_neg r
       have a:=EI (BJ P 0).c;rw[f]at a;have y:=A0w (Rat.divInt (Dc P P.length:Nat) (EZ P P.length:Nat));rw[show -(Rat.divInt (Dc P P.length:Nat) (EZ P P.length:Nat))=Jz P by rw[Jz,JC,if_pos r,Rat.divInt_eq_div,Rat.divInt_eq_div,<-A1n];congr 1;push_cast;grind]at y;exact Zfi
      .obtain ⟨z,K⟩:∃z,z=(BJ P 0).c.num.sign:=⟨_,rfl⟩
       have f:0<z\/z=0:=by
        rw[K];rcases Int.lt_or_eq_of_le (Int.not_lt.1 r)with h | h
        .exact .inl ZeX
        .exact .inr (by rw[<-h];rfl)
       have a:=EI (BJ P 0).c;rw[<-K]at a;rw[show Rat.divInt (Dc P P.length:Nat) (EZ P P.length:Nat)=Jz P by rw[Jz,JC,if_neg r,Int.one_mul]]at s;exact Zfi
end Go.Proofs.YtcikkglcoeedlaaGreat
