/- Part 29 of the proof of claimClashes_holds. No condition. -/
import Derived.Scope
import Derived.Test.YtcikkglcoeedlaaGreatCx19
import Derived.Test.YtcikkglcoeedlaaGreatCx20
import Derived.Test.YtcikkglcoeedlaaGreatCx21
set_option linter.unusedSimpArgs false
set_option linter.unusedVariables false
set_option maxRecDepth 100000
namespace Go.Proofs.YtcikkglcoeedlaaGreat
open Go.RowKit
variable{n:Nat}
def Hs(P:List Tm):Nat->Nat
 |0=>0
 |k+1=>Nat.gcd (Hs P k) (Cm P k).c.num.natAbs
def Fh(P:List Tm):Nat->Nat
 |0=>1
 |k+1=>Fh P k*((Cm P k).c.den/Nat.gcd (Fh P k) (Cm P k).c.den)
theorem Zb(P:List Tm)(k:Nat):Fh P (k+1)=Nat.lcm (Fh P k) (Cm P k).c.den:=by
 rw[Fh,Nat.lcm,Nat.mul_div_assoc _ (Nat.gcd_dvd_right _ _)]
theorem OU(P:List Tm):∀k,0<Fh P k
 |0=>Nat.one_pos
 |k+1=>by rw[Zb];exact Nat.lcm_pos (OU P k) (Cm P k).c.den_pos
def Ld(P:List Tm):Int:=if(Cm P 0).c.num<0 then -1 else 1
def OJ(P:List Tm):Rat:=Rat.divInt (Ld P*(Fh P P.length:Nat)) (Hs P P.length:Nat)
def Ki(P:List Tm):List Tm:=if P.length=0 then[]else Vc (OJ P) (λ_=>0) P
theorem OV(P:List Tm){N:Nat}(X:PSz P N):∀k,k<=P.length->(Ao (Fh P k)).length<=1+k*N
 |0,_=>by
  have:=A4p (z:=1) Zbx Zbx;simpa[Fh]using this
 |k+1,B=>by
  have u:=OV P X k Zbx;have A:(Ao ((Cm P k).c.den/Nat.gcd (Fh P k) (Cm P k).c.den)).length<=N:=Nat.le_trans (BY (Nat.div_le_self _ _)) (X _ (DM Zbx)).2;have I:=Fo (x:=(Fh P k:Nat)) (y:=(((Cm P k).c.den/Nat.gcd (Fh P k) (Cm P k).c.den:Nat):Int)) (N:=1+k*N) (M:=N) (by rw[Int.natAbs_natCast];exact u) (by rw[Int.natAbs_natCast];exact A);rw[Fh,Nat.succ_mul];rw[Int.natAbs_mul,Int.natAbs_natCast,Int.natAbs_natCast]at I;omega
theorem TM{P:List Tm}(G:Canon P)(B:n<P.length):0<(Cm P n).c.num.natAbs:=by
 have:=G.2 _ (DM B);have A:(Cm P n).c.num≠0:=λe=>this (Rat.num_eq_zero.1 e);omega
theorem Uc(P:List Tm)(X:PSz P n)(G:Canon P):∀k,k<=P.length->(Ao (Hs P k)).length<=n
 |0,_=>by
  have:(Ao (Hs P 0)).length=0:=Bi.2 rfl;omega
 |k+1,B=>by
  rw[Hs];exact Nat.le_trans (BY (Nat.le_of_dvd (TM G Zbx) (Nat.gcd_dvd_right _ _))) (X _ (DM Zbx)).1
theorem OZ(P:List Tm)(G:Canon P):∀{k:Nat},0<k->k<=P.length->0<Hs P k
 |k+1,_,B=>by
  rw[Hs];exact Nat.gcd_pos_of_pos_right _ (TM G Zbx)
theorem XE(P:List Tm)(X:PSz P n)(G:Canon P)(g:0<P.length):RSz (OJ P) (1+P.length*n):=by
 have u:=OV P X P.length (Nat.le_refl _);have A:=Uc P X G P.length (Nat.le_refl _);have I:=OZ P G g (Nat.le_refl _);have V:n<=P.length*n:=Nat.le_mul_of_pos_left n g;refine RSz.divInt Zbx ?_ (by rw[Int.natAbs_natCast];omega);rw[Int.natAbs_mul,Int.natAbs_natCast];have:(Ld P).natAbs=1:=by unfold Ld;split<;>rfl
 rw[this,Nat.one_mul];exact u
theorem A0V(P:List Tm):Ld P≠0:=by unfold Ld;split<;>decide
theorem A0J(P:List Tm)(G:Canon P)(g:0<P.length):OJ P*((Hs P P.length:Nat):Rat)=((Ld P*(Fh P P.length:Nat):Int):Rat):=by
 have I:=OZ P G g (Nat.le_refl _)
 have:((Hs P P.length:Nat):Rat)≠0:=by
  intro e;have:Hs P P.length=0:=by exact_mod_cast e
  omega
 unfold OJ;rw[Rat.divInt_eq_div];have d:(((Hs P P.length:Nat):Int):Rat)=((Hs P P.length:Nat):Rat):=by rfl
 rw[d,Rat.div_mul_cancel this]
theorem A2D(P:List Tm)(G:Canon P)(g:0<P.length):OJ P≠0:=λe=>by
 have u:=OU P P.length;have A:=A0J P G g;rw[e,Rat.zero_mul]at A;have I:Ld P*(Fh P P.length:Nat)=0:=by exact_mod_cast A.symm
 exact Int.mul_ne_zero (A0V P) Zbx I
theorem A2C(P:List Tm):(Ki P).length=P.length:=by
 unfold Ki;split
 .exact ZgC
 .rw [Vc,List.length_map]
theorem A0Y(z:Int)(h:(Ao z.natAbs).length<=4398046511104):Abs Tryz.prog 292 [AL (Ci z)] (AL (Ci (-z))):=by
 refine Bv (Ag Tryz.func292 Zbz Zbz) λs F T L o=>?_;rw[vs1 L];obtain⟨r,j,A,p,f,g⟩:=DD (o 0 ZbK);rw[f];exact(A2E r j A p z _ g h).mono λe O ⟨y,Y,m,k,a,Z,X⟩=>⟨_,a,X,λc V u _ _=>by subst V;exact GB u Z⟩
theorem Tv(x y:Int)(h:(Ao x.natAbs).length<=4398046511104)(X:(Ao y.natAbs).length<=4398046511104)(N:0<y):Abs Tryz.prog 293 [AL (Ci x),AL (Ci y)] (EX [AL (Fx (Rat.divInt x y)),ex (.int .i64 0)]):=by
 have b:y.sign=1:=Int.sign_eq_one_of_pos N;have Z:=ED y;rw[b]at Z;refine Ab Tryz.func293 λA=>?_;rw[Tryz.ntmps293];have I:=OL x y h X N;refine Go ?_;exact ZhF
theorem WQ(P:List Tm)(N:Nat)(Y:PSz P N)(G:Canon P)(K:PIn P 0 65535)(a:N<=1000000)(E:P.length<=100000):Abs Tryz.prog 242 [Cd P] (Cd (Ki P)):=by
 by_cases C:P.length=0
 .obtain rfl:=List.eq_nil_of_length_eq_zero C
  refine Ab Tryz.func242 λR=>?_;rw[Tryz.ntmps242];refine Go ?_;exact Aq (Ak (ResV.tmp rfl rfl) (Bd))
 .have o:∀k,k<=P.length->(Ao (Fh P k)).length<=1+k*N:=OV P Y
  have H:∀k,k<=P.length->(Ao (Hs P k)).length<=N:=Uc P Y G;have T:∀k,k<=P.length->k*N<=100000000000:=λk B=>Nat.le_trans (Nat.mul_le_mul (Nat.le_trans B E) a) ZbA;refine Ab Tryz.func242 λR=>?_;rw[Tryz.ntmps242];have n:=Si 0 Zbx Zbx;have p:=Si 1 Zbx Zbx;refine Go ?_;refine AE (λS f=>∃k,k<=P.length/\S=P.length-k/\f=⟨[(0,.d (Cd P)),(3,.ptr 0 0),(4,.ptr 1 0),(20,.d (Cd P)),(21,.d (ex (.int .i64 (P.length:Nat)))),(22,.d (ex (.int .i64 (k:Nat))))],[.var 109 ((Ci (Hs P k:Nat)).map .d),.var 109 ((Ci (Fh P k:Nat)).map .d)]⟩) ?le ⟨0,by omega,rfl,rfl⟩ ?round
  case le=>exact Ac Zej Zcn
  case round=>
   rintro S _ ⟨k,B,rfl,rfl⟩;by_cases Q:k<P.length
   .have u:=o k Zbx
    have A:=H k Zbx;have I:=T k Zbx;have w:=Y _ (DM Q);have xb:=(G.2 _ (DM Q));have V:(Ao (Cm P k).c.num.natAbs).length<=N:=w.1;have m:(Ao (Cm P k).c.den).length<=N:=w.2;obtain⟨g,W⟩:∃g,g=Nat.gcd (Fh P k) (Cm P k).c.den:=⟨_,rfl⟩;have xa:0<g:=by rw[W];exact Nat.gcd_pos_of_pos_left _ (OU P k)
    have X:g∣(Cm P k).c.den:=by rw[W];exact Nat.gcd_dvd_right _ _
    have y:(Ao g).length<=N:=Nat.le_trans (BY (Nat.le_of_dvd (Cm P k).c.den_pos X)) m;obtain⟨q,F⟩:∃q,q=(Cm P k).c.den/g:=⟨_,rfl⟩;have e:(Ao q).length<=N:=Nat.le_trans (BY (by rw[F];exact Nat.div_le_self _ _)) m;have c:=NI (Hs P k:Nat) (Cm P k).c.num ZbW Zbx;rw[show Nat.gcd (Hs P k:Int).natAbs (Cm P k).c.num.natAbs=Hs P (k+1)from rfl]at c;have i:=NI (Fh P k:Nat) ((Cm P k).c.den:Nat) ZbW ZbW;rw[show Nat.gcd (Fh P k:Int).natAbs ((Cm P k).c.den:Int).natAbs=g from W.symm]at i;have j:=Sv ((Cm P k).c.den:Nat) (g:Nat) ZbW ZbW Zbx (Nat.mod_eq_zero_of_dvd X);rw[show(((Cm P k).c.den:Nat):Int)/((g:Nat):Int)=((q:Nat):Int)by rw[F];rfl]at j;have r:=Sn (Fh P k:Nat) (q:Nat) ZbW ZbW;rw[show((Fh P k:Nat):Int)*((q:Nat):Int)=((Fh P (k+1):Nat):Int)by rw[F,W,Fh];push_cast;rfl]at r;refine ZeT ?_;exact Ac Zej Zcn
   .obtain rfl:k=P.length:=by omega
    have u:=o P.length (Nat.le_refl _);have A:=H P.length (Nat.le_refl _);have I:=T P.length (Nat.le_refl _);have xa:0<Hs P P.length:=OZ P G (show 0<P.length by omega) (Nat.le_refl _);have l:0<P.length:=by omega
    have J:=XE P Y G l;have U:=WP (OJ P) (λ_=>0) P (1+P.length*N) N (A2D P G l) J In8.zero Y K (λt M=>by rw[Qv];exact K t M) E Zbx;rw[show Vc (OJ P) (λ_=>0) P=Ki P by rw[Ki,if_neg C]]at U;obtain⟨L,d⟩:∃L,L=Fh P P.length:=⟨_,rfl⟩;by_cases s:(Cm P 0).c.num<0
    .have b:(Cm P 0).c.num.sign=-1:=Int.sign_eq_neg_one_of_neg s
     have Z:=Eh (Cm P 0).c;rw[b]at Z;have v:=A0Y (Fh P P.length:Nat) ZbW;have x:=Tv (-(Fh P P.length:Nat)) (Hs P P.length:Nat) (by rw[Int.natAbs_neg,Int.natAbs_natCast];omega) ZbW Zbx;rw[show Rat.divInt (-(Fh P P.length:Nat)) (Hs P P.length:Nat)=OJ P by rw[OJ,Ld,if_pos s];congr 1;omega]at x;exact ZeE
    .have b:0<(Cm P 0).c.num.sign\/(Cm P 0).c.num.sign=0:=by
      rcases Int.lt_or_eq_of_le (Int.not_lt.1 s)with h | h
      .exact .inl (by rw[Int.sign_eq_one_of_pos h];decide)
      .exact .inr (by rw[<-h];rfl)
     obtain⟨z,O⟩:∃z,z=(Cm P 0).c.num.sign:=⟨_,rfl⟩;have Z:=Eh (Cm P 0).c;rw[<-O]at Z b;have x:=Tv (Fh P P.length:Nat) (Hs P P.length:Nat) ZbW ZbW Zbx;rw[show Rat.divInt (Fh P P.length:Nat) (Hs P P.length:Nat)=OJ P by rw[OJ,Ld,if_neg s,Int.one_mul]]at x;refine Go ?_;exact Yf
end Go.Proofs.YtcikkglcoeedlaaGreat
