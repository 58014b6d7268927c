/- Part 22. No condition. -/
import Derived.Scope
import Derived.Test.YtcikkglcoeedlaaGreatDf17
import Derived.Test.YtcikkglcoeedlaaGreatDf18
import Derived.Test.YtcikkglcoeedlaaGreatDf19
import Derived.Test.YtcikkglcoeedlaaGreatDf21
set_option linter.unusedSimpArgs false
set_option linter.unusedVariables false
set_option maxRecDepth 100000
set_option maxHeartbeats 2000000
namespace Go.Proofs.YtcikkglcoeedlaaGreat
open _root_.Go.Proofs.Tryz
open Go.RowKit
variable{n:Nat}
theorem A3P(p:Rat):Abs prog 228 [AQ (DB p)] (AQ (DB (-p))):=by
 refine BH (Ag func228 ZbK ZbK) λs J C I r=>?_;rw[vs1 I];obtain⟨q,K,B,E,t,X,G,F,l,d⟩:=A2X (r 0 ZbV);rw[l];exact(A6o q K B E t X G F p _ d).mono λe M ⟨y,A,Y,L,m,k,n,U,a,W,Q⟩=>⟨_,a,Q,λj c h _ _=>by subst c;exact A7l h W⟩
def EN(P:List Tm):Nat->Nat
 |0=>0
 |k+1=>Nat.gcd (EN P k) (Bv P k).c.num.natAbs
def Dh(P:List Tm):Nat->Nat
 |0=>1
 |k+1=>Dh P k*((Bv P k).c.den/Nat.gcd (Dh P k) (Bv P k).c.den)
theorem LR(P:List Tm)(k:Nat):Dh P (k+1)=Nat.lcm (Dh P k) (Bv P k).c.den:=by
 rw[Dh,Nat.lcm,Nat.mul_div_assoc _ (YbK _ _)]
theorem HG(P:List Tm):∀k,0<Dh P k
 |0=>Nat.one_pos
 |k+1=>by rw[LR];exact Nat.lcm_pos (HG P k) (Bv P k).c.den_pos
theorem JU(P:List Tm):∀{k j:Nat},j<k->(Bv P j).c.den∣Dh P k
 |k+1,j,h=>by
  rw[LR];rcases YaD j k with q | q
  .exact YdW (JU P q) (Nat.dvd_lcm_left _ _)
  .obtain rfl:j=k:=by omega
   exact Nat.dvd_lcm_right _ _
theorem Yk(P:List Tm){w:Nat}:∀{k:Nat},(∀j,j<k->(Bv P j).c.den∣w)->Dh P k∣w
 |0,_=>Nat.one_dvd _
 |k+1,h=>by
  rw[LR];exact Nat.lcm_dvd (Yk P λj W=>h j ZbG) (h k ZbG)
theorem Sr(P:List Tm):∀{k j:Nat},j<k->EN P k∣(Bv P j).c.num.natAbs
 |k+1,j,h=>by
  rw[EN];rcases YaD j k with q | q
  .exact YdW (YcC _ _) (Sr P q)
  .obtain rfl:j=k:=by omega
   exact Zko
theorem YB(P:List Tm){d:Nat}:∀{k:Nat},(∀j,j<k->d∣(Bv P j).c.num.natAbs)->d∣EN P k
 |0,_=>Nat.dvd_zero d
 |k+1,h=>by
  rw[EN];exact Nat.dvd_gcd (YB P λj W=>h j ZbG) (h k ZbG)
def Lb(P:List Tm)(L:Nat):Nat->Nat
 |0=>0
 |k+1=>Nat.gcd (Lb P L k) ((Bv P k).c.num.natAbs*(L/(Bv P k).c.den))
theorem Yt(P:List Tm)(L:Nat):∀{k j:Nat},j<k->Lb P L k∣(Bv P j).c.num.natAbs*(L/(Bv P j).c.den)
 |k+1,j,h=>by
  rw[Lb];rcases YaD j k with q | q
  .exact YdW (YcC _ _) (Yt P L q)
  .obtain rfl:j=k:=by omega
   exact Zko
theorem YA(P:List Tm)(L:Nat){d:Nat}:∀{k:Nat},(∀j,j<k->d∣(Bv P j).c.num.natAbs*(L/(Bv P j).c.den))->d∣Lb P L k
 |0,_=>Nat.dvd_zero d
 |k+1,h=>by
  rw[Lb];exact Nat.dvd_gcd (YA P L λj W=>h j ZbG) (h k ZbG)
theorem A2i(P:List Tm)(n:Nat)(A:0<n):Lb P (Dh P n) n=EN P n:=by
 obtain⟨L,F⟩:∃L,L=Dh P n:=⟨_,rfl⟩;have o:0<L:=F▸HG P n;have p:∀j,j<n->(Bv P j).c.den∣L:=λj W=>F▸JU P W;rw[<-F];obtain⟨g,T⟩:∃g,g=Lb P L n:=⟨_,rfl⟩;have R:∀j,j<n->g∣(Bv P j).c.num.natAbs*(L/(Bv P j).c.den):=λj W=>T▸Yt P L W;rw[<-T];apply Nat.dvd_antisymm
 .obtain ⟨d,B⟩:∃d,d=Nat.gcd g L:=⟨_,rfl⟩
  have r:d∣L:=B▸YbK g L;have N:d∣g:=B▸YcC g L;have M:0<d:=Nat.pos_of_dvd_of_pos r o;obtain⟨w,c⟩:=r;obtain⟨u,S⟩:=N
  have X:∀j,j<n->(Bv P j).c.den∣w:=λj W=>by
   obtain⟨m,E⟩:=R j W;obtain⟨e,a⟩:=p j W;have i:=(Bv P j).c.den_pos;have b:L/(Bv P j).c.den=e:=by rw[a,Ydx _ i]
   rw[b]at E
   have y:d*((Bv P j).c.num.natAbs*w)=d*((Bv P j).c.den*(u*m)):=by
    calc d * ((Bv P j).c.num.natAbs * w) = (Bv P j).c.num.natAbs * (d * w) := by rw [Ybl]
     _=(Bv P j).c.num.natAbs*((Bv P j).c.den*e):=by rw[<-c,a]
     _=(Bv P j).c.den*((Bv P j).c.num.natAbs*e):=by rw[Ybl]
     _=(Bv P j).c.den*(g*m):=by rw[E]
     _=(Bv P j).c.den*(d*u*m):=by rw[S]
     _=d*((Bv P j).c.den*(u*m)):=by rw[Ybb d,Ybl]
   have G:=Yet M y;have K:Nat.Coprime (Bv P j).c.den (Bv P j).c.num.natAbs:=(Bv P j).c.reduced.symm;exact K.dvd_of_dvd_mul_left ⟨u*m,G⟩
  have Y:L∣w:=by
   have:=Yk P (w:=w) (k:=n) X;rwa [<-F]at this
  have I:d=1:=by
   obtain⟨x,C⟩:=Y;have J:0<w:=YbA λe=>by rw[e,Yct]at c;omega
   have:w*1=w*(d*x):=by rw[YbF,<-Ybb,YaN w d,<-c,<-C]
   exact Nat.eq_one_of_mul_eq_one_right (Yet J this).symm
  refine YB P λj W=>?_
  have K:Nat.Coprime g (L/(Bv P j).c.den):=by
   have q:Nat.gcd g (L/(Bv P j).c.den)∣Nat.gcd g L:=Nat.dvd_gcd (YcC _ _) (YdW (YbK _ _) (Nat.div_dvd_of_dvd (p j W)));rw[<-B,I]at q;exact Nat.dvd_one.1 q
  exact K.dvd_of_dvd_mul_right (R j W)
 .rw [T]
  exact YA P L λj W=>YdW (Sr P W) (Nat.dvd_mul_right _ _)
def Fr(P:List Tm):Int:=if(Bv P 0).c.num<0 then -1 else 1
def HP(P:List Tm):Rat:=Rat.divInt (Fr P*(Dh P P.length:Nat)) (EN P P.length:Nat)
def DZ(P:List Tm):List Tm:=if P.length=0 then[]else TX (HP P) (λ_=>0) P
theorem KW(P:List Tm){N:Nat}(M:PSz P N):∀k,k<=P.length->(Aw (Dh P k)).length<=1+k*N
 |0,_=>by
  have:=A9z (z:=1) ZbG ZbG;simpa[Dh]using this
 |k+1,B=>by
  have q:=KW P M k ZbG;have A:(Aw ((Bv P k).c.den/Nat.gcd (Dh P k) (Bv P k).c.den)).length<=N:=Yat (BR (YdC _ _)) (M _ (Dz ZbG)).2;have K:=FO (x:=(Dh P k:Nat)) (y:=(((Bv P k).c.den/Nat.gcd (Dh P k) (Bv P k).c.den:Nat):Int)) (N:=1+k*N) (M:=N) (by rw[YaR];exact q) (by rw[YaR];exact A);rw[Dh,YcZ];rw[Ycp,YaR,YaR]at K;omega
theorem Nx{P:List Tm}(F:Canon P)(B:n<P.length):0<(Bv P n).c.num.natAbs:=by
 have:=F.2 _ (Dz B);have A:(Bv P n).c.num≠0:=λe=>this (YeD.1 e);omega
theorem Sp(P:List Tm){N:Nat}(M:PSz P N)(F:Canon P):∀k,k<=P.length->(Aw (EN P k)).length<=N
 |0,_=>by
  have:(Aw (EN P 0)).length=0:=Br.2 rfl;omega
 |k+1,B=>by
  rw[EN];exact Yat (BR (YdA (Nx F ZbG) (YbK _ _))) (M _ (Dz ZbG)).1
theorem JR(P:List Tm)(F:Canon P):∀{k:Nat},0<k->k<=P.length->0<EN P k
 |k+1,_,B=>by
  rw[EN];exact Nat.gcd_pos_of_pos_right _ (Nx F ZbG)
theorem Nz(P:List Tm){N:Nat}(M:PSz P N)(F:Canon P)(d:0<P.length):RSz (HP P) (1+P.length*N):=by
 have q:=KW P M P.length (Yah _);have A:=Sp P M F P.length (Yah _);have K:=JR P F d (Yah _);have Y:N<=P.length*N:=Nat.le_mul_of_pos_left N d;refine RSz.divInt ZbG ?_ (by rw[YaR];omega);rw[Ycp,YaR];have:(Fr P).natAbs=1:=by unfold Fr;split<;>rfl
 rw[this,YcB];exact q
theorem A5E(P:List Tm):Fr P≠0:=by unfold Fr;split<;>decide
theorem XT(P:List Tm)(F:Canon P)(d:0<P.length):HP P*((EN P P.length:Nat):Rat)=((Fr P*(Dh P P.length:Nat):Int):Rat):=by
 have K:=JR P F d (Yah _)
 have:((EN P P.length:Nat):Rat)≠0:=by
  intro e;have:EN P P.length=0:=by exact_mod_cast e
  omega
 unfold HP;rw[Ydf];have b:(((EN P P.length:Nat):Int):Rat)=((EN P P.length:Nat):Rat):=by rfl
 rw[b,Rat.div_mul_cancel this]
theorem VK(P:List Tm)(F:Canon P)(d:0<P.length):HP P≠0:=λe=>by
 have q:=HG P P.length;have A:=XT P F d;rw[e,Rat.zero_mul]at A;have K:Fr P*(Dh P P.length:Nat)=0:=by exact_mod_cast A.symm
 exact YeF (A5E P) ZbG K
theorem A5l(P:List Tm)(F:Canon P)(B:n<P.length):∃A:Int,HP P*(Bv P n).c=(A:Rat)/\A*(EN P P.length:Nat)=Fr P*(Bv P n).c.num*((Dh P P.length/(Bv P n).c.den:Nat):Int):=by
 have x:=XT P F ZbG;have K:=JR P F (by omega:0<P.length) (Yah _);obtain⟨g,T⟩:∃g,g=EN P P.length:=⟨_,rfl⟩;have R:(g:Int)∣(Bv P n).c.num:=YcX.2 (T▸Sr P B);obtain⟨a,q⟩:=R;obtain⟨L,m⟩:∃L,L=Dh P P.length:=⟨_,rfl⟩;have Z:(Bv P n).c.den∣L:=m▸JU P B;obtain⟨l,I⟩:=Z;have i:=(Bv P n).c.den_pos;rw[<-T,<-m]at x ⊢;rw[<-T]at K;have b:L/(Bv P n).c.den=l:=by rw[I,Ydx _ i]
 rw[b]
 have G:((g:Nat):Rat)≠0:=by
  intro e;have:g=0:=by exact_mod_cast e
  omega
 have v:(((Bv P n).c.den:Nat):Rat)≠0:=by
  intro e;have:(Bv P n).c.den=0:=by exact_mod_cast e
  omega
 have k:(Bv P n).c*(((Bv P n).c.den:Nat):Rat)=(((Bv P n).c.num:Int):Rat):=by
  have h:=Ydf (Bv P n).c.num ((Bv P n).c.den:Nat);rw[Rat.num_divInt_den]at h;have V:(((((Bv P n).c.den:Nat):Int)):Rat)=(((Bv P n).c.den:Nat):Rat):=rfl;rw[V]at h
  calc (Bv P n).c * (((Bv P n).c.den : Nat) : Rat) = (((Bv P n).c.num : Int) : Rat) / (((Bv P n).c.den : Nat) : Rat) * (((Bv P n).c.den : Nat) : Rat) := by rw [← h]
   _=_:=Rat.div_mul_cancel v
 refine⟨Fr P*a*l,?_,by rw[q,Int.mul_assoc (Fr P),Int.mul_right_comm];ac_rfl⟩
 have y:HP P*(Bv P n).c*(((g:Nat):Rat)*(((Bv P n).c.den:Nat):Rat))=((Fr P*a*l:Int):Rat)*(((g:Nat):Rat)*(((Bv P n).c.den:Nat):Rat)):=by
  calc HP P * (Bv P n).c * (((g : Nat) : Rat) * (((Bv P n).c.den : Nat) : Rat)) = (HP P * ((g : Nat) : Rat)) * ((Bv P n).c * (((Bv P n).c.den : Nat) : Rat)) := by grind
   _=((Fr P*(L:Nat):Int):Rat)*(((Bv P n).c.num:Int):Rat):=by rw[x,k]
   _=((Fr P*((Bv P n).c.den*l:Nat):Int):Rat)*((((g:Nat):Int)*a:Int):Rat):=by rw[I,q]
   _=_:=by push_cast;grind
 have d:((g:Nat):Rat)*(((Bv P n).c.den:Nat):Rat)≠0:=λe=>(Rat.mul_eq_zero.1 e).elim G v;have:=congrArg (· / (((g:Nat):Rat)*(((Bv P n).c.den:Nat):Rat))) y;simpa[Rat.mul_div_cancel d]using this
theorem Ny(P:List Tm):(DZ P).length=P.length:=by
 unfold DZ;split
 .exact ZiB
 .rw [TX,Yap]
theorem A5m(P:List Tm)(B:n<P.length):Bv (DZ P) n=⟨HP P*(Bv P n).c,(Bv P n).m⟩:=by
 have M:n<(DZ P).length:=by rw[Ny];exact B
 unfold Bv;rw[Yab,Yac M,Yab,Yac B];simp[DZ,show¬P.length=0 by omega,show P≠[]by(intro e;subst e;simp at B),TX,Hk]
theorem A7s(P:List Tm)(F:Canon P)(d:0<P.length):HP (DZ P)=1:=by
 have E:∀k,k<P.length->∃A:Int,(Bv (DZ P) k).c=(A:Rat)/\A*(EN P P.length:Nat)=Fr P*(Bv P k).c.num*((Dh P P.length/(Bv P k).c.den:Nat):Int):=λk B=>by
  rw[A5m P B];exact A5l P F B
 have K:=JR P F d (Yah _)
 have I:∀k,k<=P.length->Dh (DZ P) k=1:=λk=>by
  induction k with
  |zero=>intro _;rfl
  |succ k v=>
   intro B;obtain⟨A,e,_⟩:=E k ZbG;rw[LR,v ZbG,e,Rat.den_intCast];rfl
 have p:(Fr P).natAbs=1:=by unfold Fr;split<;>rfl
 have T:∀k,k<=P.length->EN (DZ P) k*EN P P.length=Lb P (Dh P P.length) k:=λk=>by
  induction k with
  |zero=>intro _;exact YcD _
  |succ k v=>
   intro B;obtain⟨A,e,h⟩:=E k ZbG;have h:=congrArg Int.natAbs h;rw[Ycp,Ycp,Ycp,p,YcB,YaR,YaR]at h;rw[EN,Lb,<-v ZbG,<-h,e,YeH,Nat.gcd_mul_right]
 have Y:=T P.length (Yah _);rw[A2i P P.length d]at Y;have n:EN (DZ P) P.length=1:=Nat.eq_of_mul_eq_mul_right K (by rw[Y,YcB])
 have C:Fr (DZ P)=1:=by
  obtain⟨A,e,h⟩:=E 0 d;have q:=Nx F d;have o:0<Dh P P.length/(Bv P 0).c.den:=YeM (YdA (HG _ _) (JU P d)) (Bv P 0).c.den_pos
  have a:0<Fr P*(Bv P 0).c.num:=by
   unfold Fr;split<;>omega
  have f:0<A*(EN P P.length:Nat):=by rw[h];exact YeN a ZbG
  have y:0<A:=Int.pos_of_mul_pos_left f ZbG;unfold Fr;rw[e,YeH,Yai ZbG]
 rw[HP,Ny,I _ (Yah _),n,C];exact ZjL
theorem A5k(P:List Tm)(F:Canon P):DZ (DZ P)=DZ P:=by
 by_cases d:P.length=0
 .unfold DZ;simp[d]
 .have q:(DZ P).length=P.length:=by unfold DZ;rw [Yai d, TX, Yap]
  have A:=A7s P F ZbG;rw[DZ,Yai ZbG,A,TX];simp[Rat.one_mul,Hk]
theorem A5L(z:Int)(h:(Aw z.natAbs).length<=4398046511104):Abs prog 292 [AQ (Cv z)] (AQ (Cv (-z))):=by
 refine BH (Ag func292 ZbK ZbK) λs J C I r=>?_;rw[vs1 I];obtain⟨q,B,t,X,l,d⟩:=DU (r 0 ZbV);rw[l];exact(A7u q B t X z _ d h).mono λe M ⟨y,Y,m,k,a,W,Q⟩=>⟨_,a,Q,λj c A _ _=>by subst c;exact HC A W⟩
theorem XH(x y:Int)(h:(Aw x.natAbs).length<=4398046511104)(m:(Aw y.natAbs).length<=4398046511104)(N:0<y):Abs prog 293 [AQ (Cv x),AQ (Cv y)] (Gb [AQ (DB (Rat.divInt x y)),ex (.int .i64 0)]):=by
 have Z:y.sign=1:=Ybq N;have f:=FJ y;rw[Z]at f;refine Ab func293 λw=>?_;rw[ntmps293];have H:=Sa x y h m N;exact ZgT
theorem A1m(P:List Tm)(N:Nat)(W:PSz P N)(F:Canon P)(J:PIn P 0 65535)(V:N<=1000000)(G:P.length<=100000):Abs prog 242 [BP P] (BP (DZ P)):=by
 by_cases d:P.length=0
 .obtain rfl:=YaF d
  refine Ab func242 λw=>?_;rw[ntmps242];exact Zjh
 .have a:∀k,k<=P.length->(Aw (Dh P k)).length<=1+k*N:=KW P W
  have U:∀k,k<=P.length->(Aw (EN P k)).length<=N:=Sp P W F;have x:∀k,k<=P.length->k*N<=100000000000:=λk C=>Yat (YaX (Yat C G) V) ZbL;refine Ab func242 λw=>?_;rw[ntmps242];have o:=VI 0 ZbG ZbG;have r:=VI 1 ZbG ZbG;refine Go ?_;refine AF (λv c=>∃k,k<=P.length/\v=P.length-k/\c=⟨[(0,.d (BP P)),(3,.ptr 0 0),(4,.ptr 1 0),(20,.d (BP P)),(21,.d (ex (.int .i64 (P.length:Nat)))),(22,.d (ex (.int .i64 (k:Nat))))],[.var 109 ((Cv (EN P k:Nat)).map .d),.var 109 ((Cv (Dh P k:Nat)).map .d)]⟩) ?le ⟨0,by omega,rfl,rfl⟩ ?round
  case le=>exact Ac Zfe ZcA
  case round=>
   rintro v _ ⟨k,C,rfl,rfl⟩;by_cases O:k<P.length
   .have A:=a k ZbG
    have B:=U k ZbG;have K:=x k ZbG;have b:=W _ (Dz O);have xb:=(F.2 _ (Dz O));have Y:(Aw (Bv P k).c.num.natAbs).length<=N:=b.1;have n:(Aw (Bv P k).c.den).length<=N:=b.2;obtain⟨g,T⟩:∃g,g=Nat.gcd (Dh P k) (Bv P k).c.den:=⟨_,rfl⟩;have xa:0<g:=by rw[T];exact Nat.gcd_pos_of_pos_left _ (HG P k)
    have R:g∣(Bv P k).c.den:=by rw[T];exact Zko
    have M:(Aw g).length<=N:=Yat (BR (YdA (Bv P k).c.den_pos R)) n;obtain⟨q,I⟩:∃q,q=(Bv P k).c.den/g:=⟨_,rfl⟩;have X:(Aw q).length<=N:=Yat (BR (by rw[I];exact YdC _ _)) n;have S:=QQ (EN P k:Nat) (Bv P k).c.num Zcb ZbG;rw[show Nat.gcd (EN P k:Int).natAbs (Bv P k).c.num.natAbs=EN P (k+1)from rfl]at S;have e:=QQ (Dh P k:Nat) ((Bv P k).c.den:Nat) Zcb Zcb;rw[show Nat.gcd (Dh P k:Int).natAbs ((Bv P k).c.den:Int).natAbs=g from T.symm]at e;have i:=VX ((Bv P k).c.den:Nat) (g:Nat) Zcb Zcb ZbG (YbY R);rw[show(((Bv P k).c.den:Nat):Int)/((g:Nat):Int)=((q:Nat):Int)by rw[I];rfl]at i;have j:=VP (Dh P k:Nat) (q:Nat) Zcb Zcb;rw[show((Dh P k:Nat):Int)*((q:Nat):Int)=((Dh P (k+1):Nat):Int)by rw[I,T,Dh];push_cast;rfl]at j;refine ZfP ?_;exact Ac Zfe ZcA
   .obtain rfl:k=P.length:=by omega
    have A:=a P.length (Yah _);have B:=U P.length (Yah _);have K:=x P.length (Yah _);have xa:0<EN P P.length:=JR P F (show 0<P.length by omega) (Yah _);have l:0<P.length:=by omega
    have Q:=Nz P W F l;have H:=A1l (HP P) (λ_=>0) P (1+P.length*N) N (VK P F l) Q In8.zero W J (λt E=>by rw[Hk];exact J t E) G ZbG;rw[show TX (HP P) (λ_=>0) P=DZ P by rw[DZ,Yai d]]at H;obtain⟨L,m⟩:∃L,L=Dh P P.length:=⟨_,rfl⟩;by_cases s:(Bv P 0).c.num<0
    .have Z:(Bv P 0).c.num.sign=-1:=Ybj s
     have f:=EL (Bv P 0).c;rw[Z]at f;have y:=A5L (Dh P P.length:Nat) Zcb;have p:=XH (-(Dh P P.length:Nat)) (EN P P.length:Nat) (by rw[Yer,YaR];omega) Zcb ZbG;rw[show Rat.divInt (-(Dh P P.length:Nat)) (EN P P.length:Nat)=HP P by rw[HP,Fr,Yan s];congr 1;omega]at p;exact Zfx
    .have Z:0<(Bv P 0).c.num.sign\/(Bv P 0).c.num.sign=0:=by
      rcases Int.lt_or_eq_of_le (Int.not_lt.1 s)with h | h
      .exact .inl Zfs
      .exact .inr (by rw[<-h];rfl)
     obtain⟨z,u⟩:∃z,z=(Bv P 0).c.num.sign:=⟨_,rfl⟩;have f:=EL (Bv P 0).c;rw[<-u]at f Z;have p:=XH (Dh P P.length:Nat) (EN P P.length:Nat) Zcb Zcb ZbG;rw[show Rat.divInt (Dh P P.length:Nat) (EN P P.length:Nat)=HP P by rw[HP,Fr,Yai s,Yei]]at p;refine Go ?_;exact Yf
theorem A5P(P:List Tm){N:Nat}(M:PSz P N)(F:Canon P):∀k,k<=P.length->(Aw (Lb P (Dh P P.length) k)).length<=N+(1+P.length*N)
 |0,_=>by
  have:(Aw (Lb P (Dh P P.length) 0)).length=0:=Br.2 rfl;omega
 |k+1,B=>by
  have e:(Bv P k).c.den∣Dh P P.length:=JU P ZbG;have C:0<Dh P P.length/(Bv P k).c.den:=YeM (YdA (HG P _) e) (Bv P k).c.den_pos;have q:=Nx F (show k<P.length by omega);have A:=FO (x:=(Bv P k).c.num) (y:=((Dh P P.length/(Bv P k).c.den:Nat):Int)) (N:=N) (M:=1+P.length*N) (M _ (Dz ZbG)).1 (by rw[YaR];exact Yat (BR (YdC _ _)) (KW P M _ (Yah _)));rw[Ycp,YaR]at A;rw[Lb];exact Yat (BR (YdA (YcW q C) (YbK _ _))) A
theorem A51(a b:Rat):-a/b=-(a/b):=by rw[Rat.div_def,Rat.div_def,Rat.neg_mul]
theorem Zg(P:List Tm)(N:Nat)(S:PSz P N)(F:Canon P)(J:PIn P 0 65535)(Q:N<=1000000)(C:P.length<=100000):Abs prog 127 [BP P] (BP (DZ P)):=by
 by_cases d:P.length=0
 .obtain rfl:=YaF d
  refine Ab func127 λw=>?_;rw[ntmps127];exact Zfx
 .have W:∀k,k<=P.length->(Aw (Dh P k)).length<=1+k*N:=KW P S
  have xa:=A5P P S F;have U:∀k,k<=P.length->k*N<=100000000000:=λk B=>Yat (YaX (Yat B C) Q) ZbL;have m:0<P.length:=by omega
  refine Ab func127 λw=>?_;rw[ntmps127];have H:=Kq 1 ZbG ZbG;have j:=Kq 0 ZbG ZbG;refine Go ?_;refine AF (λv c=>∃k,k<=P.length/\v=P.length-k/\c=⟨[(0,.d (BP P)),(3,.ptr 0 0),(4,.ptr 1 0),(5,.d (ex (.int .i64 (k:Nat))))],[.var 109 ((Cv (Dh P k:Nat)).map .d),.var 109 ((Cv ((0:Nat):Int)).map .d)]⟩) ?le ⟨0,by omega,rfl,rfl⟩ ?round
  case le=>exact Ac ZdJ ZcA
  case round=>
   rintro v _ ⟨k,B,rfl,rfl⟩;by_cases O:k<P.length
   .have A:=W k ZbG
    have K:=U k ZbG;have X:=S _ (Dz O);have n:(Aw (Bv P k).c.den).length<=N:=X.2;obtain⟨g,T⟩:∃g,g=Nat.gcd (Dh P k) (Bv P k).c.den:=⟨_,rfl⟩;have xc:0<g:=by rw[T];exact Nat.gcd_pos_of_pos_left _ (HG P k)
    have R:g∣(Bv P k).c.den:=by rw[T];exact Zko
    obtain⟨q,E⟩:∃q,q=(Bv P k).c.den/g:=⟨_,rfl⟩;have V:(Aw q).length<=N:=Yat (BR (by rw[E];exact YdC _ _)) n;have a:=SU (Dh P k:Nat) ((Bv P k).c.den:Nat) Zcb Zcb;rw[show Nat.gcd (Dh P k:Int).natAbs ((Bv P k).c.den:Int).natAbs=g from T.symm]at a;have e:=Sb ((Bv P k).c.den:Nat) (g:Nat) Zcb ZbG (YbY R);rw[show(((Bv P k).c.den:Nat):Int)/((g:Nat):Int)=((q:Nat):Int)by rw[E];rfl]at e;have i:=Ho (Dh P k:Nat) (q:Nat) Zcb Zcb;rw[show((Dh P k:Nat):Int)*((q:Nat):Int)=((Dh P (k+1):Nat):Int)by rw[E,T,Dh];push_cast;rfl]at i;refine Go ?_;refine Re (ME (e:=17) (e2:=18) ZbK (K4 (K4 (K4 (K4 (K4 (AddE.keep (AddE.add (AddE.add (AddE.keep AddE.nil))))))))) ZbK (K4 (K4 (K4 (K4 (K4 (AddE.keep (AddE.add (AddE.add (AddE.keep AddE.nil))))))))) ZbK) [[],[],[(30,0),(31,1)],[(32,2)],[(33,3)],[(34,4)],[],[],[],[(37,7),(38,8)],[(39,9)],[(40,10)],[(41,11)],[(36,6),(42,12)],[(35,5),(43,13)],[(44,14)],[(29,15)],[(29,15)],[(29,15)],[],[]] [[],[],[0,1],[0,1,2],[0,1,2,3],[0,1,2,3,4],[],[],[],[7,8],[7,8,9],[7,8,9,10],[7,8,9,10,11],[6,7,8,9,10,11,12],[0,1,2,3,4,5,6,7,8,9,10,11,12,13],[0,1,2,3,4,5,6,7,8,9,10,11,12,13,14],[0,1,2,3,4,5,6,7,8,9,10,11,12,13,14,15],[0,1,2,3,4,5,6,7,8,9,10,11,12,13,14,15],[0,1,2,3,4,5,6,7,8,9,10,11,12,13,14,15],[],[]] rfl ZbK ZbK ZbK ?_;refine Dw ?_;refine ZfP ?_;exact Ac ZdJ ZcA
   .obtain rfl:k=P.length:=by omega
    obtain⟨M,b⟩:∃M,M=Dh P P.length:=⟨_,rfl⟩;have s:(Aw M).length<=1+P.length*N:=b▸W P.length (Yah _);have K:=U P.length (Yah _);have xd:0<M:=b▸HG P _;refine Go ?_;refine AF (λv c=>∃k,k<=P.length/\v=P.length-k/\c=⟨[(0,.d (BP P)),(3,.ptr 0 0),(4,.ptr 1 0),(9,.d (ex (.int .i64 (k:Nat))))],[.var 109 ((Cv (Dh P P.length:Nat)).map .d),.var 109 ((Cv ((Lb P (Dh P P.length) k:Nat):Int)).map .d)]⟩) ?le ⟨0,by omega,rfl,rfl⟩ ?round
    case le=>exact Ac ZdJ ZcA
    case round=>
     rintro v _ ⟨k,B,rfl,rfl⟩;by_cases O:k<P.length
     .have H:=xa k ZbG
      rw[<-b]at H;have X:=S _ (Dz O);have Y:(Aw (Bv P k).c.num.natAbs).length<=N:=X.1;have n:(Aw (Bv P k).c.den).length<=N:=X.2;have r:(Bv P k).c.den∣M:=b▸JU P O;obtain⟨q,E⟩:∃q,q=M/(Bv P k).c.den:=⟨_,rfl⟩;have V:(Aw q).length<=1+P.length*N:=Yat (BR (by rw[E];exact YdC _ _)) s;have xb:=(Bv P k).c.den_pos;have I:=Sb (M:Nat) ((Bv P k).c.den:Nat) Zcb ZbG (by simp only[YaR];exact YbY r);rw[show((M:Nat):Int)/(((Bv P k).c.den:Nat):Int)=((q:Nat):Int)by rw[E];rfl]at I;have a:=Ho (Bv P k).c.num (q:Nat) ZbG Zcb;have y:=FO (x:=(Bv P k).c.num) (y:=((q:Nat):Int)) (N:=N) (M:=1+P.length*N) Y (by rw[YaR];exact V);have e:=SU (Lb P M k:Nat) ((Bv P k).c.num*(q:Nat)) Zcb ZbG;rw[show Nat.gcd ((Lb P M k:Nat):Int).natAbs ((Bv P k).c.num*((q:Nat):Int)).natAbs=Lb P M (k+1)by rw[Lb,Ycp,YaR,YaR,E]]at e;rw[<-b];refine Go ?_;refine Re (ME (e:=10) (e2:=11) ZbK (K4 (K4 (K4 (AddE.keep (AddE.keep (AddE.add (AddE.add (AddE.keep AddE.nil)))))))) ZbK (K4 (K4 (K4 (AddE.keep (AddE.keep (AddE.add (AddE.add (AddE.keep AddE.nil)))))))) ZbK) [[],[],[],[(59,1),(60,2)],[(61,3)],[(62,4)],[(63,5)],[(58,0),(64,6)],[(65,7)],[(57,8)],[(57,8)],[(57,8)],[],[]] [[],[],[],[1,2],[1,2,3],[1,2,3,4],[1,2,3,4,5],[0,1,2,3,4,5,6],[0,1,2,3,4,5,6,7],[0,1,2,3,4,5,6,7,8],[0,1,2,3,4,5,6,7,8],[0,1,2,3,4,5,6,7,8],[],[]] rfl ZbK ZbK ZbK ?_;refine ZfU ?_;refine Dy 10 ?_;refine Dw ?_;refine ZfP ?_;exact Ac ZdJ ZcA
     .obtain rfl:k=P.length:=by omega
      rw[A2i P P.length m];have xc:0<EN P P.length:=JR P F m (Yah _);have o:(Aw (EN P P.length)).length<=N:=Sp P S F _ (Yah _);have G:=Nz P S F m;have x:=MU (HP P) (λ_=>0) P (1+P.length*N) N (VK P F m) G In8.zero S J (λt L=>by rw[Hk];exact J t L) C ZbG;rw[show TX (HP P) (λ_=>0) P=DZ P by rw[DZ,Yai d]]at x;have l:=A3a (Dh P P.length:Nat) (EN P P.length:Nat) (by simp only[YaR];rw[<-b];omega) Zcb ZbG;by_cases p:(Bv P 0).c.num<0
      .have Z:(Bv P 0).c.num.sign=-1:=Ybj p
       have f:=Gm (Bv P 0).c;rw[Z]at f;have cn:=A3P (Rat.divInt (Dh P P.length:Nat) (EN P P.length:Nat));rw[show -(Rat.divInt (Dh P P.length:Nat) (EN P P.length:Nat))=HP P by rw[HP,Fr,Yan p,Ydf,Ydf,<-A51];congr 1;push_cast;grind]at cn;exact Zfx
      .obtain ⟨z,u⟩:∃z,z=(Bv P 0).c.num.sign:=⟨_,rfl⟩
       have Z:0<z\/z=0:=by
        rw[u];rcases Int.lt_or_eq_of_le (Int.not_lt.1 p)with h | h
        .exact .inl Zfs
        .exact .inr (by rw[<-h];rfl)
       have f:=Gm (Bv P 0).c;rw[<-u]at f;rw[show Rat.divInt (Dh P P.length:Nat) (EN P P.length:Nat)=HP P by rw[HP,Fr,Yai p,Yei]]at l;exact Zfx
