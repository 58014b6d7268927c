/- Part 27. No condition. -/
import Derived.Scope
import Derived.Test.YtcikkglcoeedlaaGreatDm17
import Derived.Test.YtcikkglcoeedlaaGreatDm18
import Derived.Test.YtcikkglcoeedlaaGreatDm20
import Derived.Test.YtcikkglcoeedlaaGreatDm21
set_option linter.all false
set_option maxRecDepth 100000
set_option maxHeartbeats 2000000
namespace Go.Proofs.YtcikkglcoeedlaaGreat
open _root_.Go.Proofs.Tryz
open Go.RowKit
variable{n:Nat}
theorem A4f(p:Rat):Abs prog 228 [AP (DE p)] (AP (DE (-p))):=by
 refine BI (Ag func228 ZbG ZbG) λs J C I r=>?_;rw[vs1 I];obtain⟨u,v,i,w,H,W,G,F,n,c⟩:=A3m (r 0 ZbR);rw[n];exact(A6X u v i w H W G F p _ c).mono λe N ⟨y,g,Y,K,m,k,x,B,b,A,Z⟩=>⟨_,b,Z,λj q E _ _=>by subst q;exact A80 E A⟩
def ET(P:List Tm):Nat->Nat
 |0=>0
 |k+1=>Nat.gcd (ET P k) (BA P k).c.num.natAbs
def Di(P:List Tm):Nat->Nat
 |0=>1
 |k+1=>Di P k*((BA P k).c.den/Nat.gcd (Di P k) (BA P k).c.den)
theorem Mv(P:List Tm)(k:Nat):Di P (k+1)=Nat.lcm (Di P k) (BA P k).c.den:=by
 rw[Di,Nat.lcm,Nat.mul_div_assoc _ (YbN _ _)]
theorem HX(P:List Tm):∀k,0<Di P k
 |0=>Nat.one_pos
 |k+1=>by rw[Mv];exact Nat.lcm_pos (HX P k) (BA P k).c.den_pos
theorem Kj(P:List Tm):∀{k j:Nat},j<k->(BA P j).c.den∣Di P k
 |k+1,j,h=>by
  rw[Mv];rcases YaI j k with q | q
  .exact Yed (Kj P q) (Nat.dvd_lcm_left _ _)
  .obtain rfl:j=k:=by omega
   exact Nat.dvd_lcm_right _ _
theorem YN(P:List Tm){w:Nat}:∀{k:Nat},(∀j,j<k->(BA P j).c.den∣w)->Di P k∣w
 |0,_=>Nat.one_dvd _
 |k+1,h=>by
  rw[Mv];exact Nat.lcm_dvd (YN P λj X=>h j ZbC) (h k ZbC)
theorem SF(P:List Tm):∀{k j:Nat},j<k->ET P k∣(BA P j).c.num.natAbs
 |k+1,j,h=>by
  rw[ET];rcases YaI j k with q | q
  .exact Yed (YcG _ _) (SF P q)
  .obtain rfl:j=k:=by omega
   exact ZkF
theorem YZ(P:List Tm){d:Nat}:∀{k:Nat},(∀j,j<k->d∣(BA P j).c.num.natAbs)->d∣ET P k
 |0,_=>Nat.dvd_zero d
 |k+1,h=>by
  rw[ET];exact Nat.dvd_gcd (YZ P λj X=>h j ZbC) (h k ZbC)
def LH(P:List Tm)(L:Nat):Nat->Nat
 |0=>0
 |k+1=>Nat.gcd (LH P L k) ((BA P k).c.num.natAbs*(L/(BA P k).c.den))
theorem YT(P:List Tm)(L:Nat):∀{k j:Nat},j<k->LH P L k∣(BA P j).c.num.natAbs*(L/(BA P j).c.den)
 |k+1,j,h=>by
  rw[LH];rcases YaI j k with q | q
  .exact Yed (YcG _ _) (YT P L q)
  .obtain rfl:j=k:=by omega
   exact ZkF
theorem YY(P:List Tm)(L:Nat){d:Nat}:∀{k:Nat},(∀j,j<k->d∣(BA P j).c.num.natAbs*(L/(BA P j).c.den))->d∣LH P L k
 |0,_=>Nat.dvd_zero d
 |k+1,h=>by
  rw[LH];exact Nat.dvd_gcd (YY P L λj X=>h j ZbC) (h k ZbC)
theorem A2G(P:List Tm)(n:Nat)(c:0<n):LH P (Di P n) n=ET P n:=by
 obtain⟨L,s⟩:∃L,L=Di P n:=⟨_,rfl⟩;have J:0<L:=s▸HX P n;have M:∀j,j<n->(BA P j).c.den∣L:=λj X=>s▸Kj P X;rw[<-s];obtain⟨g,R⟩:∃g,g=LH P L n:=⟨_,rfl⟩;have T:∀j,j<n->g∣(BA P j).c.num.natAbs*(L/(BA P j).c.den):=λj X=>R▸YT P L X;rw[<-R];apply Nat.dvd_antisymm
 .obtain ⟨d,A⟩:∃d,d=Nat.gcd g L:=⟨_,rfl⟩
  have K:d∣L:=A▸YbN g L;have S:d∣g:=A▸YcG g L;have I:0<d:=Nat.pos_of_dvd_of_pos K J;obtain⟨w,B⟩:=K;obtain⟨u,Q⟩:=S
  have N:∀j,j<n->(BA P j).c.den∣w:=λj X=>by
   obtain⟨m,v⟩:=T j X;obtain⟨e,b⟩:=M j X;have F:=(BA P j).c.den_pos;have W:L/(BA P j).c.den=e:=by rw[b,YdC _ F]
   rw[W]at v
   have o:d*((BA P j).c.num.natAbs*w)=d*((BA P j).c.den*(u*m)):=by
    calc d * ((BA P j).c.num.natAbs * w) = (BA P j).c.num.natAbs * (d * w) := by rw [Ybm]
     _=(BA P j).c.num.natAbs*((BA P j).c.den*e):=by rw[<-B,b]
     _=(BA P j).c.den*((BA P j).c.num.natAbs*e):=by rw[Ybm]
     _=(BA P j).c.den*(g*m):=by rw[v]
     _=(BA P j).c.den*(d*u*m):=by rw[Q]
     _=d*((BA P j).c.den*(u*m)):=by rw[Yba d,Ybm]
   have H:=YeB I o;have G:Nat.Coprime (BA P j).c.den (BA P j).c.num.natAbs:=(BA P j).c.reduced.symm;exact G.dvd_of_dvd_mul_left ⟨u*m,H⟩
  have O:L∣w:=by
   have:=YN P (w:=w) (k:=n) N;rwa [<-s]at this
  have E:d=1:=by
   obtain⟨x,C⟩:=O;have U:0<w:=YbC λe=>by rw[e,Ycz]at B;omega
   have:w*1=w*(d*x):=by rw[Ybz,<-Yba,YaM w d,<-B,<-C]
   exact Nat.eq_one_of_mul_eq_one_right (YeB U this).symm
  refine YZ P λj X=>?_
  have G:Nat.Coprime g (L/(BA P j).c.den):=by
   have q:Nat.gcd g (L/(BA P j).c.den)∣Nat.gcd g L:=Nat.dvd_gcd (YcG _ _) (Yed (YbN _ _) (Nat.div_dvd_of_dvd (M j X)));rw[<-A,E]at q;exact Nat.dvd_one.1 q
  exact G.dvd_of_dvd_mul_right (T j X)
 .rw [R]
  exact YY P L λj X=>Yed (SF P X) (Nat.dvd_mul_right _ _)
def Fw(P:List Tm):Int:=if(BA P 0).c.num<0 then -1 else 1
def Ij(P:List Tm):Rat:=Rat.divInt (Fw P*(Di P P.length:Nat)) (ET P P.length:Nat)
def Ea(P:List Tm):List Tm:=if P.length=0 then[]else Ur (Ij P) (λ_=>0) P
theorem LD(P:List Tm){N:Nat}(L:PSz P N):∀k,k<=P.length->(Aw (Di P k)).length<=1+k*N
 |0,_=>by
  have:=Aas (z:=1) ZbC ZbC;simpa[Di]using this
 |k+1,B=>by
  have q:=LD P L k ZbC;have A:(Aw ((BA P k).c.den/Nat.gcd (Di P k) (BA P k).c.den)).length<=N:=Yau (BP (YeN _ _)) (L _ (DC ZbC)).2;have K:=FV (x:=(Di P k:Nat)) (y:=(((BA P k).c.den/Nat.gcd (Di P k) (BA P k).c.den:Nat):Int)) (N:=1+k*N) (M:=N) (by rw[YaU];exact q) (by rw[YaU];exact A);rw[Di,YcP];rw[Ycu,YaU,YaU]at K;omega
theorem NS{P:List Tm}(G:Canon P)(B:n<P.length):0<(BA P n).c.num.natAbs:=by
 have:=G.2 _ (DC B);have A:(BA P n).c.num≠0:=λe=>this (YeJ.1 e);omega
theorem SE(P:List Tm){N:Nat}(L:PSz P N)(G:Canon P):∀k,k<=P.length->(Aw (ET P k)).length<=N
 |0,_=>by
  have:(Aw (ET P 0)).length=0:=Br.2 rfl;omega
 |k+1,B=>by
  rw[ET];exact Yau (BP (YdF (NS G ZbC) (YbN _ _))) (L _ (DC ZbC)).1
theorem Kg(P:List Tm)(G:Canon P):∀{k:Nat},0<k->k<=P.length->0<ET P k
 |k+1,_,B=>by
  rw[ET];exact Nat.gcd_pos_of_pos_right _ (NS G ZbC)
theorem NU(P:List Tm){N:Nat}(L:PSz P N)(G:Canon P)(c:0<P.length):RSz (Ij P) (1+P.length*N):=by
 have q:=LD P L P.length (Yai _);have A:=SE P L G P.length (Yai _);have K:=Kg P G c (Yai _);have Q:N<=P.length*N:=Nat.le_mul_of_pos_left N c;refine RSz.divInt ZbC ?_ (by rw[YaU];omega);rw[Ycu,YaU];have:(Fw P).natAbs=1:=by unfold Fw;split<;>rfl
 rw[this,YcF];exact q
theorem A6b(P:List Tm):Fw P≠0:=by unfold Fw;split<;>decide
theorem YA(P:List Tm)(G:Canon P)(c:0<P.length):Ij P*((ET P P.length:Nat):Rat)=((Fw P*(Di P P.length:Nat):Int):Rat):=by
 have K:=Kg P G c (Yai _)
 have:((ET P P.length:Nat):Rat)≠0:=by
  intro e;have:ET P P.length=0:=by exact_mod_cast e
  omega
 unfold Ij;rw[Ydl];have W:(((ET P P.length:Nat):Int):Rat)=((ET P P.length:Nat):Rat):=by rfl
 rw[W,Rat.div_mul_cancel this]
theorem Wp(P:List Tm)(G:Canon P)(c:0<P.length):Ij P≠0:=λe=>by
 have q:=HX P P.length;have A:=YA P G c;rw[e,Rat.zero_mul]at A;have K:Fw P*(Di P P.length:Nat)=0:=by exact_mod_cast A.symm
 exact YeL (A6b P) ZbC K
theorem A5S(P:List Tm)(G:Canon P)(B:n<P.length):∃A:Int,Ij P*(BA P n).c=(A:Rat)/\A*(ET P P.length:Nat)=Fw P*(BA P n).c.num*((Di P P.length/(BA P n).c.den:Nat):Int):=by
 have v:=YA P G ZbC;have K:=Kg P G (by omega:0<P.length) (Yai _);obtain⟨g,R⟩:∃g,g=ET P P.length:=⟨_,rfl⟩;have T:(g:Int)∣(BA P n).c.num:=Ydc.2 (R▸SF P B);obtain⟨a,t⟩:=T;obtain⟨L,s⟩:∃L,L=Di P P.length:=⟨_,rfl⟩;have Q:(BA P n).c.den∣L:=s▸Kj P B;obtain⟨l,I⟩:=Q;have C:=(BA P n).c.den_pos;rw[<-R,<-s]at v ⊢;rw[<-R]at K;have W:L/(BA P n).c.den=l:=by rw[I,YdC _ C]
 rw[W]
 have q:((g:Nat):Rat)≠0:=by
  intro e;have:g=0:=by exact_mod_cast e
  omega
 have p:(((BA P n).c.den:Nat):Rat)≠0:=by
  intro e;have:(BA P n).c.den=0:=by exact_mod_cast e
  omega
 have m:(BA P n).c*(((BA P n).c.den:Nat):Rat)=(((BA P n).c.num:Int):Rat):=by
  have h:=Ydl (BA P n).c.num ((BA P n).c.den:Nat);rw[Rat.num_divInt_den]at h;have b:(((((BA P n).c.den:Nat):Int)):Rat)=(((BA P n).c.den:Nat):Rat):=rfl;rw[b]at h
  calc (BA P n).c * (((BA P n).c.den : Nat) : Rat) = (((BA P n).c.num : Int) : Rat) / (((BA P n).c.den : Nat) : Rat) * (((BA P n).c.den : Nat) : Rat) := by rw [← h]
   _=_:=Rat.div_mul_cancel p
 refine⟨Fw P*a*l,?_,by rw[t,Int.mul_assoc (Fw P),Int.mul_right_comm];ac_rfl⟩
 have o:Ij P*(BA P n).c*(((g:Nat):Rat)*(((BA P n).c.den:Nat):Rat))=((Fw P*a*l:Int):Rat)*(((g:Nat):Rat)*(((BA P n).c.den:Nat):Rat)):=by
  calc Ij P * (BA P n).c * (((g : Nat) : Rat) * (((BA P n).c.den : Nat) : Rat)) = (Ij P * ((g : Nat) : Rat)) * ((BA P n).c * (((BA P n).c.den : Nat) : Rat)) := by grind
   _=((Fw P*(L:Nat):Int):Rat)*(((BA P n).c.num:Int):Rat):=by rw[v,m]
   _=((Fw P*((BA P n).c.den*l:Nat):Int):Rat)*((((g:Nat):Int)*a:Int):Rat):=by rw[I,t]
   _=_:=by push_cast;grind
 have c:((g:Nat):Rat)*(((BA P n).c.den:Nat):Rat)≠0:=λe=>(Rat.mul_eq_zero.1 e).elim q p;have:=congrArg (· / (((g:Nat):Rat)*(((BA P n).c.den:Nat):Rat))) o;simpa[Rat.mul_div_cancel c]using this
theorem NT(P:List Tm):(Ea P).length=P.length:=by
 unfold Ea;split
 .exact ZiI
 .rw [Ur,Yap]
theorem A5T(P:List Tm)(B:n<P.length):BA (Ea P) n=⟨Ij P*(BA P n).c,(BA P n).m⟩:=by
 have F:n<(Ea P).length:=by rw[NT];exact B
 unfold BA;rw[Yaa,Yab F,Yaa,Yab B];simp[Ea,show¬P.length=0 by omega,show P≠[]by(intro e;subst e;simp at B),Ur,Hu]
theorem A87(P:List Tm)(G:Canon P)(c:0<P.length):Ij (Ea P)=1:=by
 have F:∀k,k<P.length->∃A:Int,(BA (Ea P) k).c=(A:Rat)/\A*(ET P P.length:Nat)=Fw P*(BA P k).c.num*((Di P P.length/(BA P k).c.den:Nat):Int):=λk B=>by
  rw[A5T P B];exact A5S P G B
 have K:=Kg P G c (Yai _)
 have I:∀k,k<=P.length->Di (Ea P) k=1:=λk=>by
  induction k with
  |zero=>intro _;rfl
  |succ k u=>
   intro B;obtain⟨A,e,_⟩:=F k ZbC;rw[Mv,u ZbC,e,Rat.den_intCast];rfl
 have p:(Fw P).natAbs=1:=by unfold Fw;split<;>rfl
 have R:∀k,k<=P.length->ET (Ea P) k*ET P P.length=LH P (Di P P.length) k:=λk=>by
  induction k with
  |zero=>intro _;exact YcH _
  |succ k u=>
   intro B;obtain⟨A,e,h⟩:=F k ZbC;have h:=congrArg Int.natAbs h;rw[Ycu,Ycu,Ycu,p,YcF,YaU,YaU]at h;rw[ET,LH,<-u ZbC,<-h,e,YeO,Nat.gcd_mul_right]
 have Q:=R P.length (Yai _);rw[A2G P P.length c]at Q;have q:ET (Ea P) P.length=1:=Nat.eq_of_mul_eq_mul_right K (by rw[Q,YcF])
 have C:Fw (Ea P)=1:=by
  obtain⟨A,e,h⟩:=F 0 c;have g:=NS G c;have T:0<Di P P.length/(BA P 0).c.den:=YeT (YdF (HX _ _) (Kj P c)) (BA P 0).c.den_pos
  have S:0<Fw P*(BA P 0).c.num:=by
   unfold Fw;split<;>omega
  have E:0<A*(ET P P.length:Nat):=by rw[h];exact YeU S ZbC
  have x:0<A:=Int.pos_of_mul_pos_left E ZbC;unfold Fw;rw[e,YeO,Yaj ZbC]
 rw[Ij,NT,I _ (Yai _),q,C];exact ZjV
theorem A5R(P:List Tm)(G:Canon P):Ea (Ea P)=Ea P:=by
 by_cases c:P.length=0
 .unfold Ea;simp[c]
 .have q:(Ea P).length=P.length:=by unfold Ea;rw [Yaj c, Ur, Yap]
  have A:=A87 P G ZbC;rw[Ea,Yaj ZbC,A,Ur];simp[Rat.one_mul,Hu]
theorem A6j(z:Int)(g:(Aw z.natAbs).length<=4398046511104):Abs prog 292 [AP (Cr z)] (AP (Cr (-z))):=by
 refine BI (Ag func292 ZbG ZbG) λs J C I r=>?_;rw[vs1 I];obtain⟨u,i,H,W,n,c⟩:=DU (r 0 ZbR);rw[n];exact(A89 u i H W z _ c g).mono λe N ⟨y,Y,m,k,b,A,Z⟩=>⟨_,b,Z,λj q B _ _=>by subst q;exact HN B A⟩
theorem Ye(x y:Int)(g:(Aw x.natAbs).length<=4398046511104)(l:(Aw y.natAbs).length<=4398046511104)(M:0<y):Abs prog 293 [AP (Cr x),AP (Cr y)] (FA [AP (DE (Rat.divInt x y)),eI 0]):=by
 have a:y.sign=1:=Ybr M;have f:=FR y;rw[a]at f;refine Ab func293 λq=>?_;rw[ntmps293];have U:=Sr x y g l M;exact ZgY
theorem A1L(P:List Tm)(N:Nat)(W:PSz P N)(G:Canon P)(J:PIn P 0 65535)(X:N<=1000000)(F:P.length<=100000):Abs prog 242 [BS P] (BS (Ea P)):=by
 by_cases c:P.length=0
 .obtain rfl:=YaE c
  refine Ab func242 λy=>?_;rw[ntmps242];exact Zjs
 .have o:∀k,k<=P.length->(Aw (Di P k)).length<=1+k*N:=LD P W
  have x:∀k,k<=P.length->(Aw (ET P k)).length<=N:=SE P W G;have u:∀k,k<=P.length->k*N<=100000000000:=λk C=>Yau (YaX (Yau C F) X) ZbH;refine Ab func242 λy=>?_;rw[ntmps242];have l:=Wn 0 ZbC ZbC;have i:=Wn 1 ZbC ZbC;refine Go ?_;refine AC (λw e=>∃k,k<=P.length/\w=P.length-k/\e=⟨[(0,.d (BS P)),(3,.ptr 0 0),(4,.ptr 1 0),(20,.d (BS P)),(21,.d (eN P.length)),(22,.d (eN k))],[.var 109 ((Cr (ET P k:Nat)).map .d),.var 109 ((Cr (Di P k:Nat)).map .d)]⟩) ?le ⟨0,by omega,rfl,rfl⟩ ?round
  case le=>exact Ac Zfh Zcu
  case round=>
   rintro w _ ⟨k,C,rfl,rfl⟩;by_cases O:k<P.length
   .have A:=o k ZbC
    have B:=x k ZbC;have K:=u k ZbC;have v:=W _ (DC O);have xb:=(G.2 _ (DC O));have Q:(Aw (BA P k).c.num.natAbs).length<=N:=v.1;have I:(Aw (BA P k).c.den).length<=N:=v.2;obtain⟨g,R⟩:∃g,g=Nat.gcd (Di P k) (BA P k).c.den:=⟨_,rfl⟩;have xa:0<g:=by rw[R];exact Nat.gcd_pos_of_pos_left _ (HX P k)
    have T:g∣(BA P k).c.den:=by rw[R];exact ZkF
    have M:(Aw g).length<=N:=Yau (BP (YdF (BA P k).c.den_pos T)) I;obtain⟨q,m⟩:∃q,q=(BA P k).c.den/g:=⟨_,rfl⟩;have Y:(Aw q).length<=N:=Yau (BP Zeq) I;have V:=Rl (ET P k:Nat) (BA P k).c.num ZbX ZbC;rw[show Nat.gcd (ET P k:Int).natAbs (BA P k).c.num.natAbs=ET P (k+1)from rfl]at V;have Z:=Rl (Di P k:Nat) ((BA P k).c.den:Nat) ZbX ZbX;rw[show Nat.gcd (Di P k:Int).natAbs ((BA P k).c.den:Int).natAbs=g from R.symm]at Z;have b:=WG ((BA P k).c.den:Nat) (g:Nat) ZbX ZbX ZbC (Yce T);rw[show(((BA P k).c.den:Nat):Int)/((g:Nat):Int)=((q:Nat):Int)by rw[m];rfl]at b;have d:=Wy (Di P k:Nat) (q:Nat) ZbX ZbX;rw[show((Di P k:Nat):Int)*((q:Nat):Int)=((Di P (k+1):Nat):Int)by rw[m,R,Di];push_cast;rfl]at d;refine ZfT ?_;exact Ac Zfh Zcu
   .obtain rfl:k=P.length:=by omega
    have A:=o P.length (Yai _);have B:=x P.length (Yai _);have K:=u P.length (Yai _);have xa:0<ET P P.length:=Kg P G (show 0<P.length by omega) (Yai _);have j:0<P.length:=by omega
    have S:=NU P W G j;have U:=A1K (Ij P) (λ_=>0) P (1+P.length*N) N (Wp P G j) S In8.zero W J (λt E=>by rw[Hu];exact J t E) F ZbC;rw[show Ur (Ij P) (λ_=>0) P=Ea P by rw[Ea,Yaj c]]at U;obtain⟨L,s⟩:∃L,L=Di P P.length:=⟨_,rfl⟩;by_cases r:(BA P 0).c.num<0
    .have a:(BA P 0).c.num.sign=-1:=Ybi r
     have f:=EQ (BA P 0).c;rw[a]at f;have H:=A6j (Di P P.length:Nat) ZbX;have p:=Ye (-(Di P P.length:Nat)) (ET P P.length:Nat) (by rw[Yez,YaU];omega) ZbX ZbC;rw[show Rat.divInt (-(Di P P.length:Nat)) (ET P P.length:Nat)=Ij P by rw[Ij,Fw,Yao r];congr 1;omega]at p;exact Zfz
    .have a:0<(BA P 0).c.num.sign\/(BA P 0).c.num.sign=0:=by
      rcases Int.lt_or_eq_of_le (Int.not_lt.1 r)with h | h
      .exact .inl Zfv
      .exact .inr (by rw[<-h];rfl)
     obtain⟨z,n⟩:∃z,z=(BA P 0).c.num.sign:=⟨_,rfl⟩;have f:=EQ (BA P 0).c;rw[<-n]at f a;have p:=Ye (Di P P.length:Nat) (ET P P.length:Nat) ZbX ZbX ZbC;rw[show Rat.divInt (Di P P.length:Nat) (ET P P.length:Nat)=Ij P by rw[Ij,Fw,Yaj r,Yeo]]at p;refine Go ?_;exact Yf
theorem A6m(P:List Tm){N:Nat}(L:PSz P N)(G:Canon P):∀k,k<=P.length->(Aw (LH P (Di P P.length) k)).length<=N+(1+P.length*N)
 |0,_=>by
  have:(Aw (LH P (Di P P.length) 0)).length=0:=Br.2 rfl;omega
 |k+1,B=>by
  have d:(BA P k).c.den∣Di P P.length:=Kj P ZbC;have m:0<Di P P.length/(BA P k).c.den:=YeT (YdF (HX P _) d) (BA P k).c.den_pos;have q:=NS G (show k<P.length by omega);have A:=FV (x:=(BA P k).c.num) (y:=((Di P P.length/(BA P k).c.den:Nat):Int)) (N:=N) (M:=1+P.length*N) (L _ (DC ZbC)).1 (by rw[YaU];exact Yau (BP (YeN _ _)) (LD P L _ (Yai _)));rw[Ycu,YaU]at A;rw[LH];exact Yau (BP (YdF (Yda q m) (YbN _ _))) A
theorem A5y(a b:Rat):-a/b=-(a/b):=by rw[Rat.div_def,Rat.div_def,Rat.neg_mul]
theorem ZD(P:List Tm)(N:Nat)(S:PSz P N)(G:Canon P)(J:PIn P 0 65535)(V:N<=1000000)(C:P.length<=100000):Abs prog 127 [BS P] (BS (Ea P)):=by
 by_cases c:P.length=0
 .obtain rfl:=YaE c
  refine Ab func127 λy=>?_;rw[ntmps127];exact Zfz
 .have o:∀k,k<=P.length->(Aw (Di P k)).length<=1+k*N:=LD P S
  have xa:=A6m P S G;have H:∀k,k<=P.length->k*N<=100000000000:=λk B=>Yau (YaX (Yau B C) V) ZbH;have d:0<P.length:=by omega
  refine Ab func127 λy=>?_;rw[ntmps127];have U:=KQ 1 ZbC ZbC;have i:=KQ 0 ZbC ZbC;refine Go ?_;refine AC (λw e=>∃k,k<=P.length/\w=P.length-k/\e=⟨[(0,.d (BS P)),(3,.ptr 0 0),(4,.ptr 1 0),(5,.d (eN k))],[.var 109 ((Cr (Di P k:Nat)).map .d),.var 109 ((Cr ((0:Nat):Int)).map .d)]⟩) ?le ⟨0,by omega,rfl,rfl⟩ ?round
  case le=>exact Ac ZdF Zcu
  case round=>
   rintro w _ ⟨k,B,rfl,rfl⟩;by_cases O:k<P.length
   .have A:=o k ZbC
    have K:=H k ZbC;have v:=S _ (DC O);have E:(Aw (BA P k).c.den).length<=N:=v.2;obtain⟨g,R⟩:∃g,g=Nat.gcd (Di P k) (BA P k).c.den:=⟨_,rfl⟩;have xc:0<g:=by rw[R];exact Nat.gcd_pos_of_pos_left _ (HX P k)
    have T:g∣(BA P k).c.den:=by rw[R];exact ZkF
    obtain⟨q,m⟩:∃q,q=(BA P k).c.den/g:=⟨_,rfl⟩;have W:(Aw q).length<=N:=Yau (BP Zeq) E;have X:=Th (Di P k:Nat) ((BA P k).c.den:Nat) ZbX ZbX;rw[show Nat.gcd (Di P k:Int).natAbs ((BA P k).c.den:Int).natAbs=g from R.symm]at X;have Z:=Ss ((BA P k).c.den:Nat) (g:Nat) ZbX ZbC (Yce T);rw[show(((BA P k).c.den:Nat):Int)/((g:Nat):Int)=((q:Nat):Int)by rw[m];rfl]at Z;have b:=Hz (Di P k:Nat) (q:Nat) ZbX ZbX;rw[show((Di P k:Nat):Int)*((q:Nat):Int)=((Di P (k+1):Nat):Int)by rw[m,R,Di];push_cast;rfl]at b;refine Go ?_;refine Ry (Ng (e:=17) (e2:=18) ZbG (K4 (K4 (K4 (K4 (K4 (AddE.keep (AddE.add (AddE.add (AddE.keep AddE.nil))))))))) ZbG (K4 (K4 (K4 (K4 (K4 (AddE.keep (AddE.add (AddE.add (AddE.keep AddE.nil))))))))) ZbG) [[],[],[(30,0),(31,1)],[(32,2)],[(33,3)],[(34,4)],[],[],[],[(37,7),(38,8)],[(39,9)],[(40,10)],[(41,11)],[(36,6),(42,12)],[(35,5),(43,13)],[(44,14)],[(29,15)],[(29,15)],[(29,15)],[],[]] [[],[],[0,1],[0,1,2],[0,1,2,3],[0,1,2,3,4],[],[],[],[7,8],[7,8,9],[7,8,9,10],[7,8,9,10,11],[6,7,8,9,10,11,12],[0,1,2,3,4,5,6,7,8,9,10,11,12,13],[0,1,2,3,4,5,6,7,8,9,10,11,12,13,14],[0,1,2,3,4,5,6,7,8,9,10,11,12,13,14,15],[0,1,2,3,4,5,6,7,8,9,10,11,12,13,14,15],[0,1,2,3,4,5,6,7,8,9,10,11,12,13,14,15],[],[]] rfl ZbG ZbG ZbG ?_;refine DA ?_;refine ZfT ?_;exact Ac ZdF Zcu
   .obtain rfl:k=P.length:=by omega
    obtain⟨M,Y⟩:∃M,M=Di P P.length:=⟨_,rfl⟩;have s:(Aw M).length<=1+P.length*N:=Y▸o P.length (Yai _);have K:=H P.length (Yai _);have xd:0<M:=Y▸HX P _;refine Go ?_;refine AC (λw e=>∃k,k<=P.length/\w=P.length-k/\e=⟨[(0,.d (BS P)),(3,.ptr 0 0),(4,.ptr 1 0),(9,.d (eN k))],[.var 109 ((Cr (Di P P.length:Nat)).map .d),.var 109 ((Cr ((LH P (Di P P.length) k:Nat):Int)).map .d)]⟩) ?le ⟨0,by omega,rfl,rfl⟩ ?round
    case le=>exact Ac ZdF Zcu
    case round=>
     rintro w _ ⟨k,B,rfl,rfl⟩;by_cases O:k<P.length
     .have U:=xa k ZbC
      rw[<-Y]at U;have v:=S _ (DC O);have Q:(Aw (BA P k).c.num.natAbs).length<=N:=v.1;have E:(Aw (BA P k).c.den).length<=N:=v.2;have r:(BA P k).c.den∣M:=Y▸Kj P O;obtain⟨q,m⟩:∃q,q=M/(BA P k).c.den:=⟨_,rfl⟩;have W:(Aw q).length<=1+P.length*N:=Yau (BP Zeq) s;have xb:=(BA P k).c.den_pos;have I:=Ss (M:Nat) ((BA P k).c.den:Nat) ZbX ZbC (by simp only[YaU];exact Yce r);rw[show((M:Nat):Int)/(((BA P k).c.den:Nat):Int)=((q:Nat):Int)by rw[m];rfl]at I;have X:=Hz (BA P k).c.num (q:Nat) ZbC ZbX;have x:=FV (x:=(BA P k).c.num) (y:=((q:Nat):Int)) (N:=N) (M:=1+P.length*N) Q (by rw[YaU];exact W);have Z:=Th (LH P M k:Nat) ((BA P k).c.num*(q:Nat)) ZbX ZbC;rw[show Nat.gcd ((LH P M k:Nat):Int).natAbs ((BA P k).c.num*((q:Nat):Int)).natAbs=LH P M (k+1)by rw[LH,Ycu,YaU,YaU,m]]at Z;rw[<-Y];refine Go ?_;refine Ry (Ng (e:=10) (e2:=11) ZbG (K4 (K4 (K4 (AddE.keep (AddE.keep (AddE.add (AddE.add (AddE.keep AddE.nil)))))))) ZbG (K4 (K4 (K4 (AddE.keep (AddE.keep (AddE.add (AddE.add (AddE.keep AddE.nil)))))))) ZbG) [[],[],[],[(59,1),(60,2)],[(61,3)],[(62,4)],[(63,5)],[(58,0),(64,6)],[(65,7)],[(57,8)],[(57,8)],[(57,8)],[],[]] [[],[],[],[1,2],[1,2,3],[1,2,3,4],[1,2,3,4,5],[0,1,2,3,4,5,6],[0,1,2,3,4,5,6,7],[0,1,2,3,4,5,6,7,8],[0,1,2,3,4,5,6,7,8],[0,1,2,3,4,5,6,7,8],[],[]] rfl ZbG ZbG ZbG ?_;refine ZfU ?_;refine Dy 10 ?_;refine DA ?_;refine ZfT ?_;exact Ac ZdF Zcu
     .obtain rfl:k=P.length:=by omega
      rw[A2G P P.length d];have xc:0<ET P P.length:=Kg P G d (Yai _);have l:(Aw (ET P P.length)).length<=N:=SE P S G _ (Yai _);have F:=NU P S G d;have u:=Nw (Ij P) (λ_=>0) P (1+P.length*N) N (Wp P G d) F In8.zero S J (λt L=>by rw[Hu];exact J t L) C ZbC;rw[show Ur (Ij P) (λ_=>0) P=Ea P by rw[Ea,Yaj c]]at u;have j:=A3y (Di P P.length:Nat) (ET P P.length:Nat) (by simp only[YaU];rw[<-Y];omega) ZbX ZbC;by_cases p:(BA P 0).c.num<0
      .have a:(BA P 0).c.num.sign=-1:=Ybi p
       have f:=GB (BA P 0).c;rw[a]at f;have cn:=A4f (Rat.divInt (Di P P.length:Nat) (ET P P.length:Nat));rw[show -(Rat.divInt (Di P P.length:Nat) (ET P P.length:Nat))=Ij P by rw[Ij,Fw,Yao p,Ydl,Ydl,<-A5y];congr 1;push_cast;grind]at cn;exact Zfz
      .obtain ⟨z,n⟩:∃z,z=(BA P 0).c.num.sign:=⟨_,rfl⟩
       have a:0<z\/z=0:=by
        rw[n];rcases Int.lt_or_eq_of_le (Int.not_lt.1 p)with h | h
        .exact .inl Zfv
        .exact .inr (by rw[<-h];rfl)
       have f:=GB (BA P 0).c;rw[<-n]at f;rw[show Rat.divInt (Di P P.length:Nat) (ET P P.length:Nat)=Ij P by rw[Ij,Fw,Yaj p,Yeo]]at j;exact Zfz
