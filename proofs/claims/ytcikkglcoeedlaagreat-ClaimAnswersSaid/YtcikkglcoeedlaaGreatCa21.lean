/- Part 21 of the proof of claimAnswers_holds. No condition. -/
import Derived.Test.YtcikkglcoeedlaaGreatCa19
import Derived.Test.YtcikkglcoeedlaaGreatCa20
set_option linter.unusedSimpArgs false
set_option linter.unusedVariables false
set_option maxRecDepth 100000
set_option maxHeartbeats 1000000
namespace Go.Proofs.YtcikkglcoeedlaaGreat
open Go.RowKit
variable{vc:AS}{h:AV}{vv:AV->List Ow->Prop}{q uh:Bool}{vK:Func}{vb:FuncId}{s vq:GS}{i j:Int}{vl:List (List D)}{vf:List (Nat×AV)}{u up:List AV}{c:List D}{l f:List Nat}{H vA uO:List Ow}{vi ud:List Tm}{ub:List Value}{n b T m:Nat}{vd vw:Nat->Int}{vB:Nat->Nat}{vg vZ:Nat->Value}{x y:Operand}{vz:Operand->AV}{vs uI:Ow}{P:Program}{vL uR:Rat}{t U:TypeId}{z v:Value}
def pk(l:List Int):Nat->Int
 |0=>1
 |k+1=>pk l k*l.getD k default
theorem Up(x y:Int)(N M:Nat)(E:(Aq x.natAbs).length<=N)(O:(Aq y.natAbs).length<=M)(X:N<=4398046511104)(S:M<=4398046511104):Abs Tryz.prog 234 [slD 109 2 ([x,y].map BW)] (AJ (BW (x*y))):=by
 have v:pk [x,y] 2=x*y:=by
  show 1*x*y=x*y;rw[Int.one_mul]
 have U:(Aq (1:Int).natAbs).length<=1:=by rw[show(1:Int).natAbs=1 from rfl,Vd];exact Nat.le_refl 1
 refine Ab Tryz.func234 λF=>?_;rw[Tryz.ntmps234];have I:=MK 1 ZbK ZbK;refine Go ?_;refine Az (λP d=>∃k,k<=2/\P=2-k/\d=⟨[(2,.ptr 0 0),(3,.ptr 1 0),(7,.d (slD 109 2 ([x,y].map BW))),(8,.d (ex (.int .i64 ((2:Nat):Int)))),(9,.d (ex (.int .i64 (k:Nat))))],[.var 109 ([ex (.bool false),ex (.slice none 0 0)].map .d),.var 109 ((BW (pk [x,y] k)).map .d)]⟩) ?le ⟨0,by omega,rfl,rfl⟩ ?round
 case le=>exact Ad Zcg Zcs
 case round=>
  rintro P _ ⟨k,C,rfl,rfl⟩;by_cases Q:k<2
  .have C:k<[x,y].length:=Q
   have J:pk [x,y] (k+1)=pk [x,y] k*[x,y].getD k default:=rfl
   have u:(Aq (pk [x,y] k).natAbs).length<=4398046511104:=by
    have:k=0\/k=1:=by omega
    rcases this with rfl | rfl
    .exact Nat.le_trans U ZbK
    .rw [show pk [x,y] 1=1*x from rfl,Int.one_mul];omega
   have K:(Aq ([x,y].getD k default).natAbs).length<=4398046511104:=by
    have:k=0\/k=1:=by omega
    rcases this with rfl | rfl
    .show (Aq x.natAbs).length<=_;omega
    .show (Aq y.natAbs).length<=_;omega
   have c:=Oq ([x,y].getD k default);have a:=Oq (pk [x,y] k);have G:=SX (pk [x,y] k) ([x,y].getD k default) u K;by_cases A:[x,y].getD k default=1
   .rw [decide_eq_true A]at c
    rw[A,Int.mul_one]at J;refine ZfX ?_;exact Ad Zcg (by exact Yv<|HpLe.cons (OwLe.varD (by rw[J]))<|HpLe.nil)
   .rw [decide_eq_false A]at c
    by_cases B:pk [x,y] k=1
    .rw [decide_eq_true B]at a
     rw[B,Int.one_mul]at J;refine ZfX ?_;exact Ad Zcg (by apply Yv;(refine HpLe.cons (OwLe.varD (by rw[J];rfl)) ?_);exact HpLe.nil)
    .rw [decide_eq_false B]at a
     refine ZfX ?_;exact Ad Zcg Zcs
  .obtain rfl:k=2:=by omega
   rw[v];exact Zfh
theorem A1G(p q:Rat)(N M:Nat)(G:RSz p N)(w:RSz q M)(X:N+M<=4398046511104):Abs Tryz.prog 324 [AJ (Eh p),AJ (Eh q)] (AJ (Eh (p*q))):=by
 have A:=p.den_pos;have B:=q.den_pos;have K:=Ez p G;have L:=Ez q w;have J:(Aq p.num.natAbs).length<=N:=G.1;have Y:(Aq q.num.natAbs).length<=M:=w.1;have c:=PD p.num q.den ZbK ZbK ZbK;have a:=PD q.num p.den ZbK ZbK ZbK;have t:=RL p q;have F:RSz (Rat.divInt p.num q.den) 4398046511104:=RSz.divInt ZbK ZbK ZbK;have I:RSz (Rat.divInt q.num p.den) 4398046511104:=RSz.divInt ZbK ZbK ZbK;generalize Rat.divInt p.num q.den=u at c t F;generalize Rat.divInt q.num p.den=v at a t I;have E:=Up u.num v.num _ _ F.1 I.1 ZbK ZbK;have d:=Up u.den v.den _ _ (Ez u F) (Ez v I) ZbK ZbK;rw[<-DF (q:=p) rfl rfl,<-DF (q:=q) rfl rfl];rw[<-DF (q:=u) rfl rfl]at c;rw[<-DF (q:=v) rfl rfl]at a;refine Ab Tryz.func324 λC=>?_;rw[Tryz.ntmps324];refine Go ?_;refine Dy 13 ?_;refine Zfn ?_;exact Ak (Ah (ResV.cell rfl rfl (Aa rfl) rfl rfl rfl) (Ac (congrArg AJ (DF t.1 (by rw[t.2];push_cast;rfl)))))
theorem Zf(x g:Int)(i:(Aq x.natAbs).length<=4398046511103)(I:g≠0)(b:x.natAbs%g.natAbs=0):Abs Tryz.prog 280 [AJ (BW x),AJ (BW g)] (AJ (BW (x/g))):=by
 refine Ab Tryz.func280 λA=>?_;rw[Tryz.ntmps280];have C:=PE x g i I b;exact Zfh
theorem LW(x y:Int)(i:(Aq x.natAbs).length<=4398046511103)(b:(Aq y.natAbs).length<=4398046511103)(O:y≠0):Abs Tryz.prog 216 [AJ (BW x),AJ (BW y)] (AJ (Eh (Rat.divInt x y))):=by
 have G:=WP (x:=x) O;have X:=A3I (x:=x) O;have u:=Qv x y i b;have a:=Nk y
 have C:(MP x y).natAbs=Nat.gcd x.natAbs y.natAbs:=by
  unfold MP;split<;>omega
 have c:=Zf x (MP x y) i X (by rw[C];exact Nat.mod_eq_zero_of_dvd (Nat.gcd_dvd_left _ _));have B:=Zf y (MP x y) b X (by rw[C];exact Nat.mod_eq_zero_of_dvd (Nat.gcd_dvd_right _ _));by_cases h:y<0
 .have f:y.sign<0:=by rw [Int.sign_eq_neg_one_of_neg h];decide
  have Z:=ZV (Nat.gcd x.natAbs y.natAbs:Nat);rw[show -((Nat.gcd x.natAbs y.natAbs:Nat):Int)=MP x y by rw[MP,if_pos h]]at Z;refine Ab Tryz.func216 λA=>?_;rw[Tryz.ntmps216];refine Go ?_;refine Dy 7 ?_;exact Zgs
 .have f:¬y.sign<0:=by rw [Int.sign_eq_one_of_pos ZbK];decide
  rw[show MP x y=((Nat.gcd x.natAbs y.natAbs:Nat):Int)by rw[MP,if_neg h]]at c B G;refine Ab Tryz.func216 λA=>?_;rw[Tryz.ntmps216];refine Go ?_;refine Dy 7 ?_;exact Zgs
theorem ZT(x y:Int)(i:(Aq x.natAbs).length<=4398046511103)(b:(Aq y.natAbs).length<=4398046511103)(O:y≠0):Abs Tryz.prog 227 [AJ (BW x),AJ (BW y)] (EY [AJ (Eh (Rat.divInt x y)),ex (.int .i64 0)]):=by
 have f:¬y.sign=0:=λh=>O (Int.sign_eq_zero_iff_zero.1 h);refine Ab Tryz.func227 λA=>?_;rw[Tryz.ntmps227];have B:=Nk y;have S:=LW x y i b O;exact Zgc
theorem ZU(p q:Rat)(N M:Nat)(G:RSz p N)(w:RSz q M)(X:N+M<=4398046511103):Abs Tryz.prog 182 [AJ (Eh p),AJ (Eh q)] (AJ (Eh (p*q))):=by
 have A:=p.den_pos;have B:=q.den_pos;have I:=Ez p G;have J:=Ez q w;have F:(Aq p.num.natAbs).length<=N:=G.1;have Y:(Aq q.num.natAbs).length<=M:=w.1;have o:=EV F Y;have g:=EV I J;have Z:((p.den:Int)*q.den)≠0:=Int.mul_ne_zero ZbK ZbK;have c:=FV p.num q.num ZbK ZbK;have a:=FV p.den q.den ZbK ZbK;have E:=LW (p.num*q.num) ((p.den:Int)*q.den) ZbK ZbK Z;rw[<-WN]at E;rw[<-DF (q:=p) rfl rfl,<-DF (q:=q) rfl rfl];refine Ab Tryz.func182 λC=>?_;rw[Tryz.ntmps182];apply Y1;refine Bx ?_;refine Bx ?_;refine Al ?_;refine Y0<|Ao ?_
 refine Dy 11 ?_;refine Xq AF ?_;refine Xq Bd ?_;refine Xq AF ?_;refine Xq Bd ?_;refine Xq (Bs (c)) ?_;refine Xq AF ?_;refine Xq Bd ?_;refine Xq AF ?_;refine Xq Bd ?_;refine Xq (Bs (a)) ?_;refine Xq (Bs (E)) ?_;refine⟨_,rfl,?_⟩;refine Sf ?_;refine Y0<|Ci ?_
 exact ZiK
theorem MN(p q:Rat)(N M:Nat)(G:RSz p N)(w:RSz q M)(X:N+M+1<=4398046511103):Abs Tryz.prog 133 [AJ (Eh p),AJ (Eh q)] (AJ (Eh (p+q))):=by
 have A:=p.den_pos;have B:=q.den_pos;have I:=Ez p G;have J:=Ez q w;have F:(Aq p.num.natAbs).length<=N:=G.1;have Y:(Aq q.num.natAbs).length<=M:=w.1;have o:=EV F J;have g:=EV Y I;have L:=EV I J;have K:=YR o (Nat.le_trans g ZbK);have Z:((p.den:Int)*q.den)≠0:=Int.mul_ne_zero ZbK ZbK;have c:=FV p.num q.den ZbK ZbK;have a:=FV q.num p.den ZbK ZbK;have E:=ZW (p.num*q.den) (q.num*p.den) ZbK ZbK;have d:=FV p.den q.den ZbK ZbK;have v:=LW (p.num*q.den+q.num*p.den) ((p.den:Int)*q.den) ZbK ZbK Z;rw[<-Se]at v;rw[<-DF (q:=p) rfl rfl,<-DF (q:=q) rfl rfl];refine Ab Tryz.func133 λC=>?_;rw[Tryz.ntmps133];apply Y1;refine Bx ?_;refine Bx ?_;refine Al ?_;refine Y0<|Ao ?_
 refine Dy 17 ?_;refine Xq AF ?_;refine Xq Bd ?_;refine Xq AF ?_;refine Xq Bd ?_;refine Xq (Bs (c)) ?_;refine Xq AF ?_;refine Xq Bd ?_;refine Xq AF ?_;refine Xq Bd ?_;refine Xq (Bs (a)) ?_;refine Xq (Bs (E)) ?_;refine Xq AF ?_;refine Xq Bd ?_;refine Xq AF ?_;refine Xq Bd ?_;refine Xq (Bs (d)) ?_;refine Xq (Bs (v)) ?_;refine⟨_,rfl,?_⟩;refine Sf ?_;refine Y0<|Ci ?_
 exact ZiK
def FG(c:Rat):List Tm:=if c=0 then[]else[⟨c,λ_=>0⟩]
theorem XO(c:Rat):Abs Tryz.prog 66 [AJ (Eh c)] (BQ (FG c)):=by
 refine Ab Tryz.func66 λA=>?_;rw[Tryz.ntmps66];by_cases B:c=0
 .have f:=DY.2 B
  have O:=DJ c;exact ZgC
 .have f:c.num.sign≠0:=λe=>B (DY.1 e)
  have C:=DJ c;exact Zhc
def HI(i:Nat):Nat->Int:=Pe (λ_=>0) i 1
theorem XN(c:Rat)(m:Nat->Int)(P:List Tm)(N M:Nat)(I:c≠0)(X:RSz c N)(A:In8 m 0 65535)(R:PSz P M)(z:PIn P 0 65535)(L:∀t∈P,In8 (Cy m t.m) 0 65535)(i:P.length<=100000)(K:N+M<=4398046511104):Abs Tryz.prog 294 [AJ (Eh c),AJ (Co m),BQ P] (EY [BQ (Uc c m P),ex (.int .i64 0)]):=by
 have f:c.num.sign≠0:=λe=>I (DY.1 e);refine Ab Tryz.func294 λE=>?_;rw[Tryz.ntmps294];have F:=DJ c;refine Go ?_;refine Az (λB d=>∃k,k<=P.length/\B=P.length-k/\d=⟨[(3,.ptr 0 0),(4,.ptr 1 0),(7,.d (ex (.int .i64 0))),(8,.own 2),(19,.d (BQ P)),(20,.d (ex (.int .i64 (P.length:Nat)))),(21,.d (ex (.int .i64 (k:Nat))))],[.var 111 ((Eh c).map .d),.var 112 ((Co m).map .d),.row 114 12 ((Uc c m (P.take k)).map Of)]⟩) ?le ⟨0,by omega,rfl,rfl⟩ ?round
 case le=>exact Ad ZdW (by exact Yv<|Yv<|Yr<|HpLe.nil)
 case round=>
  rintro B _ ⟨k,C,rfl,rfl⟩;by_cases Q:k<P.length
  .have J:=CV Q
   have q:=OT Q;have G:=A1L m (BJ P k).m A (z _ J) (L _ J);refine Go ?_;refine Dy 8 ?_;have S:=A1G c (BJ P k).c N M X (R _ J) K;refine Cw ?_
   (refine Ap ?_);refine Zfv ?_;exact Ad ZdW Zdf
  .exact ZaI
theorem Zp(h:n<vi.length):Sx (vi.take (n+1))=Sx (vi.take n) ||| suppTo (BJ vi n).m 8:=RP _ _ h
theorem Yi(P:List Tm):Sx P<256:=by
 have key:∀(P:List Tm) (s:Nat),s<256->P.foldl (λs t=>s ||| suppTo t.m 8) s<256:=by
  intro P
  induction P with
  |nil=>intro s h;exact h
  |cons t P q=>intro s h;exact q _ (Nat.or_lt_two_pow (n:=8) h (Kf t.m 8))
 exact key P 0 ZbK
theorem A0G(P:List Tm)(i:P.length<=1000000):Abs Tryz.prog 245 [BQ P] (ex (.int .u8 (Sx P:Nat))):=by
 refine Ab Tryz.func245 λF=>?_;rw[Tryz.ntmps245];refine Go ?_;refine Az (λE d=>∃k,k<=P.length/\E=P.length-k/\d=⟨[(3,.d (ex (.int .u8 (Sx (P.take k):Nat)))),(6,.d (BQ P)),(7,.d (ex (.int .i64 (P.length:Nat)))),(8,.d (ex (.int .i64 (k:Nat))))],[]⟩) ?le ⟨0,by omega,rfl,rfl⟩ ?round
 case le=>exact ZiJ
 case round=>
  rintro E _ ⟨k,C,rfl,rfl⟩;by_cases Q:k<P.length
  .have A:=Yi (P.take k)
   have B:=Kf (BJ P k).m 8;have L:=Zp Q;have O:=Ta (BJ P k).m;refine Zfv ?_;exact Ad (by exact FrLe.cons rfl (AVle.int (by rw[L]))<|Yd<|Yd<|Yd<|FrLe.nil) Zch
  .exact ZaJ
def JE(b:Bool)(l:List Nat):Bool:=if l.length=0 then !b else(((l.getD (l.length-1) 0:Nat):Int) != 0)
theorem PO(b:Bool)(l:List Nat)(i:l.length<=1000000000):Abs Tryz.prog 303 [AJ [ex (.bool b),wD l]] (ex (.bool (JE b l))):=by
 refine Ab Tryz.func303 λA=>?_;rw[Tryz.ntmps303];refine Go ?_;by_cases g:l.length=0
 .refine Go ?_
  exact Ak (Ah (ResV.tmp rfl rfl) (Ac (by rw[JE,if_pos g])))
 .refine Go ?_
  exact Ak (Ah (ResV.tmp rfl rfl) (Ac (by rw[JE,if_neg g])))
theorem OQ:∀{l:List Nat},l≠[]->l.getD (l.length-1) 0≠0->DB l=l
 |[],h,_=>absurd rfl h
 |[x],_,h=>by
  have h:x≠0:=h;simp[DB,h]
 |x::y::l,_,h=>by
  have a:(y::l).getD ((y::l).length-1) 0≠0:=by
   have e:(x::y::l).getD ((x::y::l).length-1) 0=(y::l).getD ((y::l).length-1) 0:=by simp
   rwa [e]at h
  have q:=OQ (l:=y::l) ZbV a;rw[DB,q]
theorem RO(f:BD l)(h:JE q l=true):∃z:Int,q=decide (z<0)/\l=Aq z.natAbs:=by
 unfold JE at h;split at h
 .rename_i g
  obtain rfl:=List.eq_nil_of_length_eq_zero g;exact⟨0,by simpa using h,by simp[BA]⟩
 .rename_i g
  have A:l≠[]:=λe=>g (by rw[e];rfl);have B:l.getD (l.length-1) 0≠0:=λe=>by rw[e]at h;simp at h
  have L:l=Aq (val l):=by rw[<-AU f,OQ A B]
  have V:val l≠0:=λe=>by rw[e,BA]at L;exact A L
  cases q with
  |true=>exact⟨-(val l:Int),by simp;omega,by simpa using L⟩
  |false=>exact⟨(val l:Int),by simp,by simpa using L⟩
theorem RN(z:Int):JE (decide (z<0)) (Aq z.natAbs)=true:=by
 unfold JE;split
 .rename_i h
  have:=Ba.1 h;have:z=0:=by omega
  subst this;rfl
 .rename_i h
  have Z:(Aq z.natAbs).getD ((Aq z.natAbs).length-1) 0≠0:=by
   have key:∀n,n≠0->(Aq n).getD ((Aq n).length-1) 0≠0:=by
    intro n
    induction n using Nat.strongRecOn with
    |_ n q=>
     intro i;rw[Eo i];by_cases g:n/BB=0
     .rw [g,BA]
      have:n%BB=n:=Nat.mod_eq_of_lt (by have:=Nat.div_eq_zero_iff.1 g;rcases this with h | h;exact absurd h ZbN;exact h);simpa[this]using i
     .have:=q (n/BB) (Nat.div_lt_self (Nat.pos_of_ne_zero i) ZbN) g
      have A:(Aq (n/BB)).length≠0:=λe=>g (Ba.1 e);obtain⟨m,t⟩:∃m,(Aq (n/BB)).length=m+1:=⟨(Aq (n/BB)).length-1,by omega⟩;rw[t]at this;simp only[List.length_cons,t,Nat.add_sub_cancel,List.getD_cons_succ]at this ⊢;exact this
   exact key _ λe=>h (Ba.2 e)
  simp only[bne_iff_ne,ne_eq];omega
def QOk(b:Bool)(l:List Nat)(r:Bool)(P:List Nat):Prop:=∃q:Rat,b=decide (q.num<0)/\l=Aq q.num.natAbs/\r=decide ((q.den:Int)<0)/\P=Aq (q.den:Int).natAbs
theorem Oy(h:decide (i<0)=decide (j<0))(a:Aq i.natAbs=Aq j.natAbs):i=j:=by
 have A:i.natAbs=j.natAbs:=by rw[<-Aw i.natAbs,a,Aw]
 have B:(i<0)↔(j<0):=by simpa using h
 omega
theorem TM(x y:Int):QOk (decide (x<0)) (Aq x.natAbs) (decide (y<0)) (Aq y.natAbs)↔0<y/\Nat.gcd x.natAbs y.natAbs=1:=by
 constructor
 .rintro ⟨q,A,B,L,V⟩
  have c:=Oy A B;have v:=Oy L V;subst c;subst v;exact⟨by have:=q.den_pos;omega,q.reduced⟩
 .rintro ⟨A,B⟩
  refine⟨⟨x,y.natAbs,by omega,B⟩,rfl,rfl,?_,?_⟩
  .show decide (y<0)=decide (((y.natAbs:Nat):Int)<0)
   rw[decide_eq_false (show¬y<0 by omega),decide_eq_false ZbK]
  .show Aq y.natAbs=Aq ((y.natAbs:Nat):Int).natAbs
   rfl
theorem A2K(h:QOk q l uh f):JE q l=true/\JE uh f=true:=by
 obtain⟨A,rfl,rfl,rfl,rfl⟩:=h;exact⟨RN _,RN _⟩
def A3r(b:Bool)(l:List Nat)(r:Bool)(P:List Nat):List D:=[ex (.bool b),wD l,ex (.bool r),wD P]
open Classical in
theorem WG(b:Bool)(l:List Nat)(r:Bool)(P:List Nat)(f:BD l)(d:BD P)(i:l.length<=1000000000)(E:P.length<=1000000000):Abs Tryz.prog 251 [AJ (A3r b l r P)] (ex (.bool (decide (QOk b l r P)))):=by
 have c:=PO b l i;have a:=PO r P E
 cases A:JE b l with
 |false=>
  have w:¬QOk b l r P:=λh=>by rw[(A2K h).1]at A;cases A
  rw[A]at c;rw[decide_eq_false w];refine Ab Tryz.func251 λC=>?_;rw[Tryz.ntmps251];exact Zfi
 |true=>
  rw[A]at c
  cases B:JE r P with
  |false=>
   have w:¬QOk b l r P:=λh=>by rw[(A2K h).2]at B;cases B
   rw[B]at a;rw[decide_eq_false w];refine Ab Tryz.func251 λC=>?_;rw[Tryz.ntmps251];exact Zfi
  |true=>
   rw[B]at a;obtain⟨x,rfl,rfl⟩:=RO f A;obtain⟨y,rfl,rfl⟩:=RO d B;by_cases O:0<y
   .have U:y.sign=1:=Int.sign_eq_one_of_pos O
    have N:=Ix y;by_cases L:y=1
    .rw [decide_eq_true L]at N
     rw[decide_eq_true ((TM x y).2 ⟨O,by subst L;exact Nat.gcd_one_right _⟩)];refine Ab Tryz.func251 λC=>?_;rw[Tryz.ntmps251];have G:=EO y;exact Zfi
    .rw [decide_eq_false L]at N
     have I:decide (QOk (decide (x<0)) (Aq x.natAbs) (decide (y<0)) (Aq y.natAbs))=decide (((Nat.gcd x.natAbs y.natAbs:Nat):Int)=1):=by
      refine decide_eq_decide.2 ((TM x y).trans ⟨λh=>by omega,λh=>⟨O,by omega⟩⟩)
     rw[I];refine Ab Tryz.func251 λC=>?_;rw[Tryz.ntmps251];have F:=EO y;have J:=Oz x y ZbK ZbK;have S:=Ix (Nat.gcd x.natAbs y.natAbs:Nat);exact Zfi
   .have U:y.sign<=0:=Int.sign_nonpos_iff.2 ZbK
    rw[decide_eq_false λh=>O ((TM x y).1 h).1];refine Ab Tryz.func251 λC=>?_;rw[Tryz.ntmps251];have K:=EO y;exact Zfi
def A6V(b:Bool)(m:Nat)(r:Bool)(d:Nat):Int:=match b,r with
 |true,true=>EC d m
 |true,false=>-1
 |false,true=>1
 |false,false=>EC m d
theorem A0r(b r:Bool)(m d:Nat):Abs Tryz.prog 259 [AJ [ex (.bool b),wD (Aq m)],AJ [ex (.bool r),wD (Aq d)]] (ex (.int .i64 (A6V b m r d))):=by
 cases b<;>cases r
 .refine Ab Tryz.func259 λA=>?_
  rw[Tryz.ntmps259];have O:=Gq m d;exact Zfi
 .refine Ab Tryz.func259 λA=>?_
  rw[Tryz.ntmps259];exact Zfi
 .refine Ab Tryz.func259 λA=>?_
  rw[Tryz.ntmps259];exact Zfi
 .refine Ab Tryz.func259 λA=>?_
  rw[Tryz.ntmps259];have C:=Gq d m;exact Zfi
theorem Kq(x y:Nat):EC x y=((x:Int)-y).sign:=by
 unfold EC;rcases Nat.lt_trichotomy x y with h | h | h
 .rw [if_pos h,Int.sign_eq_neg_one_of_neg ZbK]
 .subst h;simp
 .rw [if_neg ZbK,if_pos h,Int.sign_eq_one_of_pos ZbK]
theorem A0c(x y:Int):A6V (decide (x<0)) x.natAbs (decide (y<0)) y.natAbs=(x-y).sign:=by
 by_cases E:x<0<;>by_cases O:y<0
 .rw [decide_eq_true E,decide_eq_true O]
  show EC _ _=_;rw[Kq];exact Zgm
 .rw [decide_eq_true E,decide_eq_false O]
  show(-1:Int)=_;rw[Int.sign_eq_neg_one_of_neg ZbK]
 .rw [decide_eq_false E,decide_eq_true O]
  show(1:Int)=_;rw[Int.sign_eq_one_of_pos ZbK]
 .rw [decide_eq_false E,decide_eq_false O]
  show EC _ _=_;rw[Kq];exact Zgm
theorem A0s(x y:Int):Abs Tryz.prog 259 [AJ (BW x),AJ (BW y)] (ex (.int .i64 (x-y).sign)):=by
 rw[<-A0c];exact A0r _ _ _ _
theorem A1W(x y:Int):Abs Tryz.prog 233 [AJ (BW x),AJ (BW y)] (ex (.int .i64 (x-y).sign)):=by
 have E:x.sign=-1/\x<0\/x.sign=0/\x=0\/x.sign=1/\0<x:=by
  rcases Int.lt_trichotomy x 0 with h | h | h
  .exact ZiM
  .exact ZiN
  .exact ZiO
 have O:y.sign=-1/\y<0\/y.sign=0/\y=0\/y.sign=1/\0<y:=by
  rcases Int.lt_trichotomy y 0 with h | h | h
  .exact ZiM
  .exact ZiN
  .exact ZiO
 rcases(show x.sign<y.sign\/y.sign<x.sign\/(x.sign=y.sign/\x.sign<0)\/(x.sign=y.sign/\0<=x.sign)by omega)with h | h | h | h
 .refine Ab Tryz.func233 λA=>?_
  rw[Tryz.ntmps233];refine Go ?_;refine Dy 4 ?_;have f:=EO x;have S:=EO y;refine Zfn ?_;exact Ak (Ah (ResV.tmp rfl rfl) (Ac (by rw[Int.sign_eq_neg_one_of_neg (show x-y<0 by omega)])))
 .refine Ab Tryz.func233 λA=>?_
  rw[Tryz.ntmps233];refine Go ?_;refine Dy 4 ?_;have G:=EO x;have B:=EO y;refine Zfn ?_;exact Ak (Ah (ResV.tmp rfl rfl) (Ac (by rw[Int.sign_eq_one_of_pos (show 0<x-y by omega)])))
 .refine Ab Tryz.func233 λA=>?_
  rw[Tryz.ntmps233];refine Go ?_;refine Dy 4 ?_;have b:=EO x;have c:=EO y;refine Cw ?_;have d:=NI y.natAbs x.natAbs;exact Zha
 .refine Ab Tryz.func233 λA=>?_
  rw[Tryz.ntmps233];refine Go ?_;refine Dy 4 ?_;have g:=EO x;have C:=EO y;refine Cw ?_;have w:=NI x.natAbs y.natAbs;exact Zha
theorem Nw(x y:Int)(E:(Aq x.natAbs).length<=1000000000)(O:(Aq y.natAbs).length<=1000000000):Abs Tryz.prog 234 [slD 109 2 [BW x,BW y]] (AJ (BW (x*y))):=by
 have c:=Ix x;have a:=Ix y;have m:=Ix 1;rw[decide_eq_true rfl]at m;refine Ab Tryz.func234 λC=>?_;rw[Tryz.ntmps234];have v:=MK 1 ZbK ZbK;refine Go ?_;refine Az (λP d=>∃(r:Int) (k:Nat),(P=2/\r=1/\k=0\/P=1/\r=x/\k=1\/P=0/\r=x*y/\k=2)/\d=⟨[(2,.ptr 0 0),(3,.ptr 1 0),(7,.d (slD 109 2 [BW x,BW y])),(8,.d (ex (.int .i64 2))),(9,.d (ex (.int .i64 (k:Nat))))],[.var 109 ([ex (.bool false),ex (.slice none 0 0)].map .d),.var 109 ((BW r).map .d)]⟩) ?le ⟨1,0,.inl ⟨rfl,rfl,rfl⟩,rfl⟩ ?round
 case le=>exact Ad Zcg Zcs
 case round=>
  rintro P _ ⟨r,k,⟨rfl,rfl,rfl⟩ | ⟨rfl,rfl,rfl⟩ | ⟨rfl,rfl,rfl⟩,rfl⟩
  .by_cases A:x=1
   .rw [decide_eq_true A]at c
    refine Go ?_;refine Am 1 ZbK ⟨x,1,.inr (.inl ⟨rfl,rfl,rfl⟩),rfl⟩ ?_;exact Ad Zcg (by apply Yv;(refine HpLe.cons (OwLe.varD (by rw[A]<;>rfl)) ?_);exact HpLe.nil)
   .rw [decide_eq_false A]at c
    refine Go ?_;refine Am 1 ZbK ⟨x,1,.inr (.inl ⟨rfl,rfl,rfl⟩),rfl⟩ ?_;exact Ad Zcg Zcs
  .by_cases B:y=1
   .rw [decide_eq_true B]at a
    refine Zgq ?_;exact Ad Zcg (by apply Yv;(refine HpLe.cons (OwLe.varD (by rw[B,Int.mul_one]<;>rfl)) ?_);exact HpLe.nil)
   .rw [decide_eq_false B]at a
    by_cases A:r=1
    .rw [decide_eq_true A]at c
     refine Zgq ?_;exact Ad Zcg (by apply Yv;(refine HpLe.cons (OwLe.varD (by rw[A,Int.one_mul]<;>rfl)) ?_);exact HpLe.nil)
    .rw [decide_eq_false A]at c
     have w:=SX r y ZbK ZbK;refine Zgq ?_;exact Ad Zcg Zcs
  .refine Go ?_
   exact ZiK
def Ju(p q:Rat):Int:=(p.num*(q.den:Int)-q.num*(p.den:Int)).sign
theorem Pm(p q:Rat)(G:RSz p 1000000000)(w:RSz q 1000000000):Abs Tryz.prog 136 [AJ (Eh p),AJ (Eh q)] (ex (.int .i64 (Ju p q))):=by
 have i:=p.den_pos;have x:=q.den_pos
 have E:p.num.sign=-1/\p.num<0\/p.num.sign=0/\p.num=0\/p.num.sign=1/\0<p.num:=by
  rcases Int.lt_trichotomy p.num 0 with h | h | h
  .exact ZiM
  .exact ZiN
  .exact ZiO
 have O:q.num.sign=-1/\q.num<0\/q.num.sign=0/\q.num=0\/q.num.sign=1/\0<q.num:=by
  rcases Int.lt_trichotomy q.num 0 with h | h | h
  .exact ZiM
  .exact ZiN
  .exact ZiO
 rcases(show p.num.sign<q.num.sign\/q.num.sign<p.num.sign\/p.num.sign=q.num.sign by omega)with h | h | h
 .have b:Ju p q=-1:=by
   refine Int.sign_eq_neg_one_of_neg ?_;rcases(show(p.num<0/\0<=q.num)\/(p.num<=0/\0<q.num)by omega)with⟨A,B⟩ | ⟨A,B⟩
   .have L:p.num*(q.den:Int)<0:=Int.mul_neg_of_neg_of_pos A ZbK
    have V:0<=q.num*(p.den:Int):=Int.mul_nonneg B ZbK;omega
   .have L:p.num*(q.den:Int)<=0:=Int.mul_nonpos_of_nonpos_of_nonneg A ZbK
    have V:0<q.num*(p.den:Int):=Int.mul_pos B ZbK;omega
  rw[b];refine Ab Tryz.func136 λC=>?_;rw[Tryz.ntmps136];refine Go ?_;refine Dy 4 ?_;have I:=DJ p;have F:=DJ q;refine Cw ?_;refine Go ?_;exact Yf
 .have b:Ju p q=1:=by
   refine Int.sign_eq_one_of_pos ?_;rcases(show(q.num<0/\0<=p.num)\/(q.num<=0/\0<p.num)by omega)with⟨A,B⟩ | ⟨A,B⟩
   .have L:q.num*(p.den:Int)<0:=Int.mul_neg_of_neg_of_pos A ZbK
    have V:0<=p.num*(q.den:Int):=Int.mul_nonneg B ZbK;omega
   .have L:q.num*(p.den:Int)<=0:=Int.mul_nonpos_of_nonpos_of_nonneg A ZbK
    have V:0<p.num*(q.den:Int):=Int.mul_pos B ZbK;omega
  rw[b];refine Ab Tryz.func136 λC=>?_;rw[Tryz.ntmps136];refine Go ?_;refine Dy 4 ?_;have f:=DJ p;have S:=DJ q;refine Cw ?_;refine Go ?_;exact Yf
 .refine Ab Tryz.func136 λC=>?_
  rw[Tryz.ntmps136];refine Go ?_;refine Dy 4 ?_;have J:=DJ p;have y:=DJ q;refine Zfn ?_;refine Dy 13 ?_;have K:=Nw p.num q.den G.1 w.2;have c:=Nw q.num p.den w.1 G.2;have d:=A1W (p.num*q.den) (q.num*p.den);exact Zgj
theorem A0o(p q:Rat)(G:RSz p 1000000000)(w:RSz q 1000000000):Abs Tryz.prog 230 [AJ (Eh p),AJ (Eh q)] (ex (.int .i64 (Ju p q))):=by
 refine Ab Tryz.func230 λA=>?_;rw[Tryz.ntmps230];refine Go ?_;refine Dy 11 ?_;have g:=VL p.num q.den (Nat.le_trans G.1 ZbK) (Nat.le_trans w.2 ZbK);have h:=VL q.num p.den (Nat.le_trans w.1 ZbK) (Nat.le_trans G.2 ZbK);have B:=A0s (p.num*q.den) (q.num*p.den);exact Zgj
structure RTm where
 b:Bool
 l:List Nat
 b':Bool
 l':List Nat
 m:Nat->Int
instance:Inhabited RTm:=⟨⟨false,[],false,[],λ_=>0⟩⟩
def rtC(r:RTm):List D:=A3r r.b r.l r.b' r.l'++Co r.m
def Jh(L:List RTm):D:=slD 114 12 (L.map rtC)
def Er(L:List RTm)(k:Nat):RTm:=L.getD k default
def tOk(r:RTm):Prop:=QOk r.b r.l r.b' r.l'/\r.l≠[]/\In8 r.m 0 65535
def GH(L:List RTm):Prop:=∀k,k<L.length->tOk (Er L k)/\(0<k->0<GT (Er L (k-1)).m (Er L k).m)
def A6A(L:List RTm):Prop:=∀r∈L,BD r.l/\BD r.l'/\r.l.length<=1000000000/\r.l'.length<=1000000000
theorem A1k{L:List RTm}(h:n<L.length):Er L n∈L:=by
 unfold Er;exact Zfz
open Classical in
theorem XM(L:List RTm)(E:A6A L)(i:L.length<=1000000):Abs Tryz.prog 244 [Jh L] (ex (.bool (decide (GH L)))):=by
 refine Ab Tryz.func244 λB=>?_;rw[Tryz.ntmps244];refine Go ?_;refine Az (λP d=>∃k,k<=L.length/\P=L.length-k/\(∀j,j<k->tOk (Er L j)/\(0<j->0<GT (Er L (j-1)).m (Er L j).m))/\d=⟨[(0,.d (Jh L)),(5,.d (Jh L)),(6,.d (ex (.int .i64 (L.length:Nat)))),(7,.d (ex (.int .i64 (k:Nat))))],[]⟩) ?le ⟨0,by omega,rfl,λj A=>absurd A (Nat.not_lt_zero j),rfl⟩ ?round
 case le=>exact ZiJ
 case round=>
  rintro P _ ⟨k,C,rfl,M,rfl⟩;by_cases Q:k<L.length
  .obtain ⟨J,K,s,Z⟩:=E _ (A1k Q)
   have c:=WG (Er L k).b (Er L k).l (Er L k).b' (Er L k).l' J K s Z;by_cases w:QOk (Er L k).b (Er L k).l (Er L k).b' (Er L k).l'
   .rw [decide_eq_true w]at c
    obtain⟨q,y,u,x,F⟩:=id w;have a:=DJ q;have W:Eh q=A3r (Er L k).b (Er L k).l (Er L k).b' (Er L k).l':=by rw[y,u,x,F];rfl
    rw[W]at a;by_cases o:q=0
    .have f:=DY.2 o
     have G:¬GH L:=λh=>(h k Q).1.2.1 (by rw[u,o];exact BA);rw[decide_eq_false G];exact Zfi
    .have f:q.num.sign≠0:=λe=>o (DY.1 e)
     by_cases t:In8 (Er L k).m 0 65535
     .have N:tOk (Er L k):=⟨w, λe=>by rw [u] at e; have:=Ba.1 (by rw [e]; rfl); exact Yy o ZbK, t⟩
      rcases Nat.eq_zero_or_pos k with g | g
      .subst g
       have O:=JB (Er L 0).m t;refine Go ?_;refine Dy 14 ?_;refine Zfn ?_;refine Am (L.length-1) ZbK ⟨1,by omega,rfl,λj A=>by obtain rfl:j=0:=ZbK;exact⟨N,λh=>absurd h (Nat.lt_irrefl _)⟩,rfl⟩ ?_;exact ZiJ
      .by_cases I:0<GT (Er L (k-1)).m (Er L k).m
       .have b:=JB (Er L k).m t;refine Go ?_
        refine Dy 14 ?_;have S:=PI (Er L (k-1)).m (Er L k).m;refine Zfn ?_;refine Am (L.length-(k+1)) ZbK ⟨k+1,by omega,rfl,λj A=>?_,rfl⟩ ?_
        .rcases Nat.lt_succ_iff_lt_or_eq.1 A with h | rfl
         .exact M j h
         .exact ⟨N,λ_=>I⟩
        .exact ZiJ
       .have G:¬GH L:=λh=>I ((h k Q).2 g)
        rw[decide_eq_false G];have V:=JB (Er L k).m t;refine Go ?_;refine Dy 14 ?_;have X:=PI (Er L (k-1)).m (Er L k).m;exact Zgj
     .have G:¬GH L:=λh=>t (h k Q).1.2.2
      rw[decide_eq_false G];have Y:=UH (Er L k).m t;exact Zfi
   .rw [decide_eq_false w]at c
    have G:¬GH L:=λh=>w (h k Q).1.1;rw[decide_eq_false G];exact Zfi
  .obtain rfl:k=L.length:=by omega
   have R:GH L:=M;rw[decide_eq_true R];exact Zfi
theorem Ts(a:Nat->Int)(h:In8 a 0 65535):Abs Tryz.prog 249 [AJ (Co a)] (ex (.bool true)):=by
 refine Ab Tryz.func249 λA=>?_;rw[Tryz.ntmps249];refine Go ?_;refine Az (λP d=>∃k,k<=8/\P=8-k/\d=⟨[(1,.ptr 0 0),(2,.d (ex (.bool false))),(3,.d (ex (.int .i64 (k:Nat))))],[.var 112 ((Co a).map .d)]⟩) ?le ⟨0,by omega,rfl,rfl⟩ ?round
 case le=>exact Ad Zcm Zdm
 case round=>
  rintro P _ ⟨k,C,rfl,rfl⟩;by_cases Q:k<8
  .have y:=h k Q
   refine Go ?_;exact Zhi
  .obtain rfl:k=8:=by omega
   exact Zfi
def EE(t:Tm):RTm:=⟨decide (t.c.num<0),Aq t.c.num.natAbs,decide ((t.c.den:Int)<0),Aq (t.c.den:Int).natAbs,t.m⟩
theorem GN(P:List Tm):BQ P=Jh (P.map EE):=by
 unfold BQ Jh;rw[List.map_map];rfl
theorem SH(h:n<vi.length):Er (vi.map EE) n=EE (BJ vi n):=by
 unfold Er BJ;rw[List.getD_eq_getElem?_getD,List.getElem?_map,List.getElem?_eq_getElem h];simp[List.getD_eq_getElem?_getD,List.getElem?_eq_getElem h]
theorem A5d(t:Tm):QOk (EE t).b (EE t).l (EE t).b' (EE t).l':=⟨t.c,rfl,rfl,rfl,rfl⟩
theorem A5z(h:∀k,k<vi.length->0<k->0<lx (BJ vi (k-1)).m (BJ vi k).m):Dec vi:=by
 unfold Dec;rw[List.pairwise_iff_getElem]
 have key:∀d i,i+d+1<vi.length->0<lx (BJ vi i).m (BJ vi (i+d+1)).m:=by
  intro d
  induction d with
  |zero=>intro i M;have:=h (i+1) M ZbK;exact Ziz
  |succ d q=>
   intro i M;have A:=q i ZbK;have B:=h (i+(d+1)+1) M ZbK;rw[show i+(d+1)+1-1=i+d+1 by omega]at B;exact PJ A B
 intro i j M E F;have A:=key (j-i-1) i ZbK;rw[show i+(j-i-1)+1=j by omega]at A;have e:∀k (C:k<vi.length),BJ vi k=vi[k]:=λk C=>ZiP
 rwa [e i M,e j E]at A
theorem A5A(h:Dec vi)(C:n<vi.length)(g:0<n):0<lx (BJ vi (n-1)).m (BJ vi n).m:=by
 unfold Dec at h;rw[List.pairwise_iff_getElem]at h;have e:∀n (C:n<vi.length),BJ vi n=vi[n]:=λn C=>ZiP
 rw[e _ C,e (n-1) ZbK];exact h (n-1) n ZbK C ZbK
theorem A12(h:Canon vi)(M:PIn vi 0 65535):GH (vi.map EE):=λk C=>by
 rw[List.length_map]at C;rw[SH C];refine⟨⟨A5d _,λe=>?_,M _ (CV C)⟩,λg=>?_⟩
 .have A:=h.2 _ (CV C)
  have B:Aq (BJ vi k).c.num.natAbs=[]:=e;have:=Ba.1 (show(Aq (BJ vi k).c.num.natAbs).length=0 by rw[B];rfl);exact Yy A ZbK
 .rw [SH ZbK]
  show 0<GT (BJ vi (k-1)).m (BJ vi k).m;rw[<-Lc];exact A5A h.1 C g
theorem Xp(c:Rat):Abs Tryz.prog 69 [AJ (Eh c)] (BQ (FG c)):=by
 by_cases B:c=0
 .have f:=DY.2 B
  refine Ab Tryz.func69 λA=>?_;rw[Tryz.ntmps69];have O:=EI c;exact ZgC
 .have f:c.num.sign≠0:=λe=>B (DY.1 e)
  refine Ab Tryz.func69 λA=>?_;rw[Tryz.ntmps69];have C:=EI c;exact Zhc
theorem A2u(i:Nat)(M:i<8):Abs Tryz.prog 94 [ex (.int .i64 (i:Nat))] (EY [BQ [⟨1,HI i⟩],ex (.int .i64 0)]):=by
 refine Ab Tryz.func94 λA=>?_;rw[Tryz.ntmps94];refine Y1<|Wa<|Wa<|Y0<|Ao<|Y1<|Wm ?_;refine Wq Bl ?_;refine Wm ?_;refine Wg Bk ?_;refine Wg Bl ?_;refine Wq Di ?_;refine Y0<|Cf<|Ys<|Y1 ?_;(refine CU rfl rfl ?_;(refine Nn (Aa rfl) (Aa rfl) rfl rfl ?_;(repeat ((first | refine⟨_,AA (ao rfl),?_⟩ | refine⟨_,Po rfl,?_⟩);refine⟨_,rfl,?_⟩));refine⟨_,rfl,?_⟩));refine Al ?_;refine Sf ?_;refine Y0<|Y1<|Wm ?_;refine Wq Qw ?_
 refine A36 0 (Co λ_=>0) rfl rfl rfl ?_;refine Go ?_;refine Dy 4 ?_;have f:=Ft 1 ZbK ZbK;refine Zfn ?_;exact Ak (Rets.of2 (ResV.tmp rfl rfl) (ResV.tmp rfl rfl) (Bb (D.le.refl _) (D.le.refl _)))
def WO(a b:Nat->Int)(k:Nat):Nat->Int:=λj=>if j<k then a j+b j else a j
theorem A1I(a b:Nat->Int)(k:Nat):Pe (WO a b k) k (a k+b k)=WO a b (k+1):=by
 funext j;simp only[Pe,WO];rcases Nat.lt_trichotomy j k with h | h | h
 .rw [if_neg ZbK,if_pos h,if_pos ZbK]
 .subst h;simp
 .rw [if_neg ZbK,if_neg ZbK,if_neg ZbK]
theorem A3G(a b:Nat->Int)(k:Nat):WO a b k k=a k:=if_neg (Nat.lt_irrefl k)
theorem A0p(a b:Nat->Int)(s:In8 a 0 65535)(F:In8 b 0 65535)(h:In8 (Cy a b) 0 65535):Abs Tryz.prog 181 [AJ (Co a),AJ (Co b)] (EY [AJ (Co (Cy a b)),ex (.int .i64 0)]):=by
 refine Ab Tryz.func181 λE=>?_;rw[Tryz.ntmps181];refine Go ?_;refine Az (λP d=>∃k,k<=8/\P=8-k/\d=⟨[(2,.ptr 0 0),(3,.ptr 1 0),(4,.ptr 2 0),(6,.d (ex (.int .i64 (k:Nat))))],[.var 112 ((Co (WO a b k)).map .d),.var 112 ((Co b).map .d),.var 112 ((Co λ_=>0).map .d)]⟩) ?le ⟨0,by omega,rfl,rfl⟩ ?round
 case le=>exact Ad ZcZ (by exact Yv<|Yv<|Yv<|HpLe.nil)
 case round=>
  rintro P _ ⟨k,C,rfl,rfl⟩;by_cases Q:k<8
  .have A:=A3G a b k
   have B:=s k Q;have L:=F k Q;refine Go ?_;refine Dy 8 ?_;refine Zfn ?_;refine Am (8-(k+1)) ZbK ⟨k+1,by omega,rfl,rfl⟩ ?_;exact Ad ZcZ (by exact HpLe.cons (OwLe.varD (by rw[A,A1I]))<|Yv<|Yv<|HpLe.nil)
  .obtain rfl:k=8:=by omega
   refine Ao<|Y1<|Wm ?_;refine Wq Bl ?_;refine Y0<|Cf<|BZ<|Bz<|BP<|BE<|Yn<|Ao<|Y1 ?_;refine Wq Bd ?_;refine Wq (Bs (Ts (WO a b 8) λi M=>by have:=h i M;rw[WO,if_pos M];exact this)) ?_;refine Wq JU ?_;refine Y0<|Cf<|Ys<|Y1 ?_;refine Wq Bd ?_;refine Sf ?_;refine Wa<|Y0<|Ci ?_
   exact Ak (Rets.of2 (ResV.cell rfl rfl (Aa rfl) rfl rfl rfl) (ResV.tmp rfl rfl) (Bb (D.le.refl _) (D.le.refl _)))
theorem A5g{s t:Tm}(h:lx s.m t.m=1):Ii (s::vi) (t::ud)=s::Ii vi (t::ud):=by
 rw[Ii,if_pos (show 0<lx s.m t.m by omega)]
theorem A5f{s t:Tm}(h:lx s.m t.m=-1):Ii (s::vi) (t::ud)=t::Ii (s::vi) ud:=by
 rw[Ii,if_neg (show¬0<lx s.m t.m by omega),if_pos (show lx s.m t.m<0 by omega)]
theorem A1H{s t:Tm}(h:lx s.m t.m=0):Ii (s::vi) (t::ud)=if s.c+t.c=0 then Ii vi ud else⟨s.c+t.c,s.m⟩::Ii vi ud:=by
 rw[Ii,if_neg (show¬0<lx s.m t.m by omega),if_neg (show¬lx s.m t.m<0 by omega)]
theorem SU(Q:List Tm):Ii [] Q=Q:=by rw[Ii]
theorem A2z(P Q:List Tm)(N M:Nat)(O:PSz P N)(S:PSz Q M)(Z:N+M+1<=4398046511103)(B:P.length+Q.length<=100000):Abs Tryz.prog 223 [BQ P,BQ Q] (BQ (Ii P Q)):=by
 refine Ab Tryz.func223 λF=>?_;rw[Tryz.ntmps223];refine Go ?_;refine Az (λE d=>∃(i k:Nat) (R:List Tm),i<=P.length/\k<=Q.length/\R++Ii (P.drop i) (Q.drop k)=Ii P Q/\R.length<=i+k/\E=(P.length-i)+(Q.length-k)/\d=⟨[(0,.d (BQ P)),(1,.d (BQ Q)),(5,.own 0),(6,.d (ex (.int .i64 (i:Nat)))),(7,.d (ex (.int .i64 (k:Nat))))],[.row 114 12 (R.map Of)]⟩) ?le ⟨0,0,[],by omega,by omega,rfl,by simp,rfl,rfl⟩ ?round
 case le=>exact Ad Zcn ZdJ
 case round=>
  rintro E _ ⟨i,k,R,A,C,heq,K,rfl,rfl⟩;by_cases o:i<P.length
  .have l:=FF o
   by_cases j:k<Q.length
   .have b:=FF j
    rw[l,b]at heq;have f:=O _ (CV o);have J:=S _ (CV j);rcases A1N (BJ P i).m (BJ Q k).m with I | I | I
    .have r:GT (BJ P i).m (BJ Q k).m = -1:=by rw [<-Lc];exact I
     refine Go ?_;refine Dy 24 ?_;have W:=Fv (BJ P i).m (BJ Q k).m;refine Cw ?_;refine Go ?_;refine Dy 18 ?_;have V:=Fv (BJ P i).m (BJ Q k).m;refine Cw ?_;refine Y0<|Ct<|Y1<|Wm<|Wm<|Wm ?_;refine Wq Dv ?_;refine Wq Cp ?_;refine Wq (CI (ao rfl) (Aa rfl) (Aa rfl) rfl rfl rfl rfl rfl) ?_;(refine Ap ?_);refine Wa<|Y0<|Y1<|Wm ?_;refine Wq Dl ?_;refine Wa<|Y0<|BZ<|Bz<|BE ?_
     refine Am ((P.length-i)+(Q.length-(k+1))) ZbK ⟨i,k+1,R++[BJ Q k],by omega,by omega,?_,by simp;omega,rfl,rfl⟩ ?_
     .rw [A5f I]at heq
      rw[<-heq,l];simp
     .exact Ad Zcn Zeb
    .have r:GT (BJ P i).m (BJ Q k).m=0:=by rw [<-Lc];exact I
     by_cases L:(BJ P i).c+(BJ Q k).c=0
     .have U:=DY.2 L
      refine Go ?_;refine Dy 24 ?_;have X:=Fv (BJ P i).m (BJ Q k).m;refine Zfn ?_;refine Dy 18 ?_;have Y:=Fv (BJ P i).m (BJ Q k).m;refine Zfn ?_;refine Dy 12 ?_;have a:=MN (BJ P i).c (BJ Q k).c N M f J Z;refine Cw ?_;have y:=EI ((BJ P i).c+(BJ Q k).c);refine Go ?_;refine Am ((P.length-(i+1))+(Q.length-(k+1))) ZbK ⟨i+1,k+1,R,by omega,by omega,?_,by omega,rfl,rfl⟩ ?_
      .rw [A1H I,if_pos L]at heq
       exact heq
      .exact Ad Zcn ZdJ
     .have U:((BJ P i).c+(BJ Q k).c).num.sign≠0:=λe=>L (DY.1 e)
      refine Go ?_;refine Dy 24 ?_;have c:=Fv (BJ P i).m (BJ Q k).m;refine Zfn ?_;refine Dy 18 ?_;have g:=Fv (BJ P i).m (BJ Q k).m;refine Zfn ?_;refine Dy 12 ?_;have h:=MN (BJ P i).c (BJ Q k).c N M f J Z;refine Cw ?_;have m:=EI ((BJ P i).c+(BJ Q k).c);refine Go ?_;refine Dy 9 ?_;refine Cw ?_
      (refine Ap ?_);refine Go ?_;refine Am ((P.length-(i+1))+(Q.length-(k+1))) ZbK ⟨i+1,k+1,R++[⟨(BJ P i).c+(BJ Q k).c,(BJ P i).m⟩],by omega,by omega,?_,by simp;omega,rfl,rfl⟩ ?_
      .rw [A1H I,if_neg L]at heq
       rw[<-heq];simp
      .exact Ad Zcn (by refine HpLe.cons (OwLe.row (Hs Of R ⟨(BJ P i).c+(BJ Q k).c,(BJ P i).m⟩)) ?_;exact HpLe.nil)
    .have r:GT (BJ P i).m (BJ Q k).m=1:=by rw [<-Lc];exact I
     refine Go ?_;refine Dy 24 ?_;have n:=Fv (BJ P i).m (BJ Q k).m;refine Cw ?_;refine Y0<|Ct<|Y1<|Wm<|Wm<|Wm ?_;refine Wq Dv ?_;refine Wq Cp ?_;refine Wq (CI (ao rfl) (Aa rfl) (Aa rfl) rfl rfl rfl rfl rfl) ?_;(refine Ap ?_);refine Wa<|Y0<|Y1<|Wm ?_;refine Wq Dl ?_;refine Wa<|Y0<|BZ<|Bz<|BE ?_
     refine Am ((P.length-(i+1))+(Q.length-k)) ZbK ⟨i+1,k,R++[BJ P i],by omega,by omega,?_,by simp;omega,rfl,rfl⟩ ?_
     .rw [A5g I]at heq
      rw[<-heq,b];simp
     .exact Ad Zcn Zea
   .refine Go ?_
    refine Dy 24 ?_;refine Cw ?_;refine Y0<|Ct<|Y1<|Wm<|Wm<|Wm ?_;refine Wq Dv ?_;refine Wq Cp ?_;refine Wq (CI (ao rfl) (Aa rfl) (Aa rfl) rfl rfl rfl rfl rfl) ?_;(refine Ap ?_);refine Wa<|Y0<|Y1<|Wm ?_;refine Wq Dl ?_;refine Wa<|Y0<|BZ<|Bz<|BE ?_
    refine Am ((P.length-(i+1))+(Q.length-k)) ZbK ⟨i+1,k,R++[BJ P i],by omega,by omega,?_,by simp;omega,rfl,rfl⟩ ?_
    .have w:Q.drop k=[]:=List.drop_eq_nil_of_le ZbK
     rw[l,w,YO]at heq;rw[<-heq,w,YO];simp
    .exact Ad Zcn Zea
  .have G:P.drop i=[]:=List.drop_eq_nil_of_le ZbK
   by_cases j:k<Q.length
   .have b:=FF j
    refine Go ?_;refine Dy 24 ?_;refine Cw ?_;refine Go ?_;refine Dy 18 ?_;refine Cw ?_;refine Y0<|Ct<|Y1<|Wm<|Wm<|Wm ?_;refine Wq Dv ?_;refine Wq Cp ?_;refine Wq (CI (ao rfl) (Aa rfl) (Aa rfl) rfl rfl rfl rfl rfl) ?_;(refine Ap ?_);refine Wa<|Y0<|Y1<|Wm ?_;refine Wq Dl ?_;refine Wa<|Y0<|BZ<|Bz<|BE ?_
    refine Am ((P.length-i)+(Q.length-(k+1))) ZbK ⟨i,k+1,R++[BJ Q k],by omega,by omega,?_,by simp;omega,rfl,rfl⟩ ?_
    .rw [b,G,SU]at heq
     rw[<-heq,G,SU];simp
    .exact Ad Zcn Zeb
   .refine Go ?_
    have w:Q.drop k=[]:=List.drop_eq_nil_of_le ZbK;exact Ak (Ah (ResV.tmp rfl rfl) (Ac (by rw[<-heq,G,w,SU,List.append_nil];rfl)))
theorem Vz(c:Rat)(m:Nat->Int)(P:List Tm)(I:c=0):Abs Tryz.prog 95 [AJ (Eh c),AJ (Co m),BQ P] (EY [BQ [],ex (.int .i64 0)]):=by
 have f:=DY.2 I;refine Ab Tryz.func95 λA=>?_;rw[Tryz.ntmps95];have O:=EI c;refine Go ?_;exact Ak (Rets.of2 (ResV.tmp rfl rfl) (ResV.tmp rfl rfl) (Bb (Nm) (D.le.refl _)))
theorem Lm(c:Rat)(m:Nat->Int)(P:List Tm)(N M:Nat)(I:c≠0)(X:RSz c N)(A:In8 m 0 65535)(R:PSz P M)(z:PIn P 0 65535)(L:∀t∈P,In8 (Cy m t.m) 0 65535)(i:P.length<=100000)(K:N+M<=4398046511103):Abs Tryz.prog 95 [AJ (Eh c),AJ (Co m),BQ P] (EY [BQ (Uc c m P),ex (.int .i64 0)]):=by
 have f:c.num.sign≠0:=λe=>I (DY.1 e);refine Ab Tryz.func95 λE=>?_;rw[Tryz.ntmps95];have F:=EI c;refine Go ?_;refine Az (λB d=>∃k,k<=P.length/\B=P.length-k/\d=⟨[(2,.d (BQ P)),(3,.ptr 0 0),(4,.ptr 1 0),(8,.own 2),(9,.d (ex (.int .i64 (k:Nat))))],[.var 111 ((Eh c).map .d),.var 112 ((Co m).map .d),.row 114 12 ((Uc c m (P.take k)).map Of)]⟩) ?le ⟨0,by omega,rfl,rfl⟩ ?round
 case le=>exact Ad Zeg (by exact Yv<|Yv<|Yr<|HpLe.nil)
 case round=>
  rintro B _ ⟨k,C,rfl,rfl⟩;by_cases Q:k<P.length
  .have J:=CV Q
   have q:=OT Q;refine Go ?_;refine OK (TR (e:=9) ZbM (K4 (K4 (AddE.keep (AddE.keep (AddE.keep (AddE.add (AddE.keep AddE.nil))))))) ZbM) [[],[],[],[(24,1),(25,2)],[(26,3)],[(27,4)],[(23,0),(28,5)],[(29,6)],[(22,7)],[(22,7)],[]] [[],[],[],[1,2],[1,2,3],[1,2,3,4],[0,1,2,3,4,5],[0,1,2,3,4,5,6],[0,1,2,3,4,5,6,7],[0,1,2,3,4,5,6,7],[]] rfl ZbM ZbM ZbM ?_;have G:=A0p m (BJ P k).m A (z _ J) (L _ J);refine Zfn ?_;refine Dy 11 ?_;have S:=ZU c (BJ P k).c N M X (R _ J) K;refine Cw ?_
   (refine Ap ?_);refine Zfv ?_;exact Ad Zeg Zdf
  .exact ZaI
def ZD(c:Rat)(P:List Tm):List Tm:=if c=0 then[]else Uc c (λ_=>0) P
theorem Xm(c:Rat)(P:List Tm)(N M:Nat)(X:RSz c N)(R:PSz P M)(z:PIn P 0 65535)(i:P.length<=100000)(B:N+M<=4398046511103):Abs Tryz.prog 224 [AJ (Eh c),BQ P] (BQ (ZD c P)):=by
 by_cases I:c=0
 .refine Ab Tryz.func224 λA=>?_
  rw[Tryz.ntmps224];have G:=Vz c (λ_=>0) P I;refine Go ?_;exact Ak (Ah (ResV.tmp rfl rfl) (Kb (by rw[ZD,if_pos I])))
 .refine Ab Tryz.func224 λA=>?_
  rw[Tryz.ntmps224];have y:=Lm c (λ_=>0) P N M I X In8.zero R z (λt J=>by rw[Ke];exact z t J) i B;refine Go ?_;exact Ak (Ah (ResV.tmp rfl rfl) (Kb (by rw[ZD,if_neg I])))
theorem Sz{m:Nat->Int}(I:RSz vL n)(R:PSz vi b):PSz (Uc vL m vi) (n+b):=λt J=>by
 obtain⟨s,f,rfl⟩:=List.mem_map.1 J;exact I.mul (R s f)
theorem Ig{x:Int}(g:-1000<=x)(A:x<=1000):RSz ((x:Int):Rat) 1:=by
 refine⟨?_,?_⟩
 .show (Aq (x:Int).natAbs).length<=1
  exact Iw Zed
 .show (Aq 1).length<=1
  exact Iw Zed
theorem Canon.nil:Canon []:=⟨List.Pairwise.nil,λt h=>by cases h⟩
theorem Mu{t:Tm}(h:t.c≠0):Canon [t]:=⟨List.pairwise_singleton _ _,λu L=>by rw[List.mem_singleton.1 L];exact h⟩
theorem LH{N M:Nat}:∀{P Q:List Tm},PSz P N->PSz Q M->PSz (Ii P Q) (N+M+1)
 |[],Q,_,h=>by simp only[Ii];exact h.mono ZbK
 |s::P,[],h,_=>by simp only[Ii];exact h.mono ZbK
 |s::P,t::Q,R,K=>by
  have E:PSz P N:=λu C=>R u (by simp[C]);have c:PSz Q M:=λu C=>K u (by simp[C])
  have m:∀{x:Tm} {L:List Tm},RSz x.c (N+M+1)->PSz L (N+M+1)->PSz (x::L) (N+M+1):=λA B u C=>by
   rcases List.mem_cons.1 C with rfl | C
   .exact A
   .exact B u C
  rw[Ii];split
  .exact m ((R s ZbV).mono ZbK) (LH E K)
  .split
   .exact m ((K t ZbV).mono ZbK) (LH R c)
   .split
    .exact LH E c
    .exact m ((R s ZbV).add (K t ZbV)) (LH E c)
termination_by P Q=>P.length+Q.length
theorem A3E(R:PIn vi i j)(K:PIn ud i j):PIn (Ii vi ud) i j:=λu L=>by
 rcases HO vi ud u L with⟨s,f,e⟩ | ⟨s,f,e⟩
 .rw [<-e];exact R s f
 .rw [<-e];exact K s f
structure PB(P:List Tm)(n N:Nat)(d:Int):Prop where
 can:Canon P
 len:P.length<=n
 sz:PSz P N
 ex:PIn P 0 d
theorem PB.mono{d S:Int}(h:PB vi n b d)(A:n<=T)(B:b<=m)(L:d<=S):PB vi T m S:=⟨h.can,Nat.le_trans h.len A,h.sz.mono B,h.ex.mono (Int.le_refl _) L⟩
theorem PB.nil{n N:Nat}{d:Int}:PB [] n N d:=⟨Canon.nil,Nat.zero_le _,λt h=>(by cases h),λt h=>(by cases h)⟩
theorem PB.add{P Q:List Tm}{n N Y I:Nat}(h:PB P n N i)(k:PB Q Y I j):PB (Ii P Q) (n+Y) (N+I+1) (max i j):=
 ⟨Iu h.can k.can,by have:=IP P Q;have:=h.len;have:=k.len;omega,LH h.sz k.sz,A3E (h.ex.mono (Int.le_refl _) ZbK) (k.ex.mono (Int.le_refl _) ZbK)⟩
theorem A3U{f:Tm->Tm}(h:Dec vi)(p:∀s∈vi,∀t∈vi,0<lx s.m t.m->0<lx (f s).m (f t).m):Dec (vi.map f):=by
 refine List.pairwise_map.2 (List.Pairwise.imp_of_mem (λ{a b} A F x=>p a A b F x) h)
theorem WF(s:vL≠0)(F:uR≠0):vL*uR≠0:=λe=>by
 rcases Rat.mul_eq_zero.1 e with h | h
 .exact s h
 .exact F h
theorem Zq(I:vL≠0)(h:Canon vi):Canon (Uc vL vd vi):=⟨A3U h.1 λs _ t _ h=>by
 show 0<lx (Cy vd s.m) (Cy vd t.m);rwa [Sg vd,Sg vd,A5i],λt J=>by
 obtain⟨s,f,rfl⟩:=List.mem_map.1 J;exact WF I (h.2 s f)⟩
theorem A4d(s:In8 vd 0 i)(F:In8 vw 0 j):In8 (Cy vd vw) 0 (i+j):=λA M=>by
 have:=s A M;have:=F A M;simp only[Cy];omega
theorem A4X{t:Tm}{d d0:Int}(h:PB vi n b d)(I:t.c≠0)(f:RSz t.c T)(A:In8 t.m 0 d0):PB (Uc t.c t.m vi) n (T+b) (d0+d):=
 ⟨Zq I h.can, by rw [Wt]; exact h.len, Sz f h.sz, fun u L => by
  obtain⟨s,f,rfl⟩:=List.mem_map.1 L;exact A4d A (h.ex s f)⟩
theorem A0H{t:Tm}(h:t.c≠0)(f:RSz t.c n)(A:In8 t.m 0 i):PB [t] 1 n i:=⟨Mu h,by simp,λu L=>by rw[List.mem_singleton.1 L];exact f,λu L=>by rw[List.mem_singleton.1 L];exact A⟩
theorem Abs.le{f:FuncId}{r r':D}(h:Abs P f c r)(b:D.le r r'):Abs P f c r':=
 ⟨h.1,λs G A B L=>(h.2 s G A B L).mono λe N ⟨v,X,j,W,K,q⟩=>⟨v,X,j,W,K,b _ _ q⟩⟩
def EH(lost:List Nat):Nat->List Value->List (Value×AV)
 |_,[]=>[]
 |i,v::G=>bif lost.contains i then EH lost (i+1) G else(v,.own i)::EH lost (i+1) G
theorem MG(lost:List Nat)(i:Nat)(v:Value)(vs:List Value):EH lost i (v::vs)=if i∈lost then EH lost (i+1) vs else(v,.own i)::EH lost (i+1) vs:=by
 show(bif lost.contains i then EH lost (i+1) vs else(v,.own i)::EH lost (i+1) vs)=_;by_cases h:i∈lost
 .rw [if_pos h,List.contains_iff_mem.2 h];rfl
 .have : lost.contains i = false := by cases F : lost.contains i with
   |true=>exact absurd (List.contains_iff_mem.1 F) h
   |false=>rfl
  rw[if_neg h,this];rfl
theorem Jw{T:List Nat}:∀{G:List Value} {i:Nat} {p:Value×AV},p∈EH T i G->∃k,k<G.length/\p=(G.getD k undef,.own (i+k))
 |[],i,p,h=>by cases h
 |v::G,i,p,h=>by
  rw[MG]at h
  have key:p∈EH T (i+1) G->∃k,k<(v::G).length/\p=((v::G).getD k undef,.own (i+k)):=λh=>by
   obtain⟨k,A,B⟩:=Jw h;exact⟨k+1,by simpa using A,by rw[B,show i+1+k=i+(k+1)by omega];rfl⟩
  split at h
  .exact key h
  .rcases List.mem_cons.1 h with rfl | h
   .exact ⟨0,by simp,rfl⟩
   .exact key h
theorem Ps{lost:List Nat}:∀{vs:List Value} {i k:Nat},k<vs.length->i+k∉lost->(vs.getD k undef,AV.own (i+k))∈EH lost i vs
 | [],i,k,h,_=>by simp at h
 | v::vs,i,0,h,hl=>by
  rw [MG,if_neg (by simpa using hl)]
  exact List.mem_cons_self
 | v::vs,i,k+1,h,hl=>by
  have:=Ps (lost:=lost) (vs:=vs) (i:=i+1) (k:=k) (by simpa using h) (by rwa [show i+1+k=i+(k+1) by omega])
  rw [show i+1+k=i+(k+1) by omega] at this
  rw [MG]
  split
  .exact this
  .exact List.mem_cons_of_mem _ this
def Hr(s:GS)(W:Nat->Value)(G:List Ow)(b:Nat):Prop:=∃i o,G[i]? = some o/\OwB s (W i) o b
def Sep(s:GS)(W:Nat->Value)(G:List Ow):Prop:=∀i j o l,i≠j->G[i]? = some o->G[j]? = some l->∀b,OwB s (W i) o b->¬OwB s (W j) l b
structure Aft(s:GS)(ρ:Nat->Value)(hp:List Ow)(lost:List Nat)(s':GS)(ρ':Nat->Value)(hp':List Ow):Prop where
 le:GS.LeX (Hr s ρ hp) s s'
 ok:s'.Ok
 mem:HpOk 0 ρ' s' hp'
 sep:Sep s' ρ' hp'
 own:∀i o b,hp'[i]? = some o->OwB s' (ρ' i) o b->Hr s ρ hp b\/s.w.heap.size<=b
 kp:∀i,i<hp.length->i∉lost->ρ' i=ρ i
 len:hp.length<=hp'.length
def Con(P:Program)(f:FuncId)(args:List AV)(G:List Ow)(T:List Nat)(Q:AV->List Ow->Prop):Prop:=
 (∀args w,(callFunc f args).run P w=.ok (.enter f args) w)/\∀(s:GS) (W:Nat->Value) (A:List Value),s.Ok->HpOk 0 W s G->Sep s W G->A.length=args.length->(∀(k:Nat) av,args[k]? = some av->AVr G.length W s av (A.getD k undef)) ->
  Calls P f A.toArray s.w λe N=>∃v,e=.returned v/\∃(j:GS) (y:Nat->Value) (r:AV) (u:List Ow),Q r u/\j.w=N/\AVr u.length y j r v/\Aft s W G T j y u
theorem Con.mono{f:FuncId}{lost:List Nat}{Q E:AV->List Ow->Prop}(h:Con P f u H lost Q)(w:∀r C,Q r C->E r C):Con P f u H lost E:=
 ⟨h.1,λs W G A B L V m=>(h.2 s W G A B L V m).mono λe N ⟨v,X,j,y,r,C,K,z⟩=>⟨v,X,j,y,r,C,w r C K,z⟩⟩
def HM:Nat->List AV->List (Nat×AV)
 |_,[]=>[]
 |i,d::R=>(i,d)::HM (i+1) R
theorem IL:∀{R:List AV} {i t:Nat} {U:AV},BV (HM i R) t=some U->i<=t/\R[t-i]? = some U
 |[],i,t,U,h=>by cases h
 |d::R,i,t,U,h=>by
  unfold HM at h;rw[CD]at h;split at h
  .rename_i e
   subst e;cases h;exact⟨Nat.le_refl _,by simp⟩
  .rename_i e
   obtain⟨A,B⟩:=IL h;refine⟨by omega,?_⟩;rw[show t-i=(t-(i+1))+1 by omega];exact Zih
structure RetsA(P:Program)(σ:AS)(rs:Array ResultVar)(r:AV):Prop where
 run:∀(base:Nat) (ρ:Nat->Value) (s:GS) (tmps:Array Value) (fn:Func),fn.results=rs->HpOk base ρ s σ.hp->(∀t av,BV σ.fr t=some av->AVr σ.hp.length ρ s av (tmps.getD t undef))->∃v,(results fn tmps).run P s.w=.ok v s.w/\AVr σ.hp.length ρ s r v
theorem RetsA.d{σ:AS}{rs:Array ResultVar}{r:D}(h:Rets P σ rs r):RetsA P σ rs (.d r):=⟨h.run⟩
theorem RetsA.one{r:AV}(h:BV vc.fr n=some r):RetsA P vc #[.tmp n] r:=⟨λ_ _ _ A _ p _ C=>⟨_,RE p (rv:=.tmp n) rfl,C n r h⟩⟩
theorem RetsA.none{σ:AS}:RetsA P σ #[] (.d Cs):=⟨λ_ _ s h W p _ _=>⟨.tuple #[],by unfold results;rw[p];simp,trivial⟩⟩
structure FinC(P:Program)(fn:Func)(lost:List Nat)(vs:List Value)(Q:AV->List Ow->Prop)(e:Exit)(σ:AS):Prop where
 how:e=.ret\/e=.normal
 res:∃r hp',RetsA P σ fn.results r/\hp'=σ.hp.set vs.length .dead/\Q r hp'
 pin:σ.hp[vs.length]? = some (.pin (EH lost 0 vs))
theorem QM{c:Code}(O:P.funcs[vb]? = some vK)(F:vK.body=some c)(xf:∀u w,(callFunc vb u).run P w=.ok (.enter vb u) w)(G:Nat.ble u.length vK.ntmps=true)
  (h:∀(S:An) (Y:List Value),Y.length=H.length->AWp P S vK.ntmps c (FinC P vK l Y vv) ⟨HM 0 u,H++[.pin (EH l 0 Y)]⟩):Con P vb u H l vv:=by
 refine⟨xf,λs W Y R f xi K q=>calls_of_wp O F ?_⟩;have g:u.length<=vK.ntmps:=by simpa[Nat.ble_eq]using G
 have xc:((List.range H.length).map W).length=H.length:=by simp
 have n:(H++[Ow.pin (EH l 0 ((List.range H.length).map W))]).length=H.length+1:=by simp
 have xb:∀i o,(H++[Ow.pin (EH l 0 ((List.range H.length).map W))])[i]? = some o->H[i]? = some o\/o=Ow.pin (EH l 0 ((List.range H.length).map W)):=λi o M=>by
  rw[List.getElem?_append]at M;split at M
  .exact .inl M
  .rename_i xd
   exact ZaK
 have Hv:∀k,k<H.length->((List.range H.length).map W).getD k undef=W k:=λk C=>by
  exact Zhe
 refine wp_mono ((h ⟨s,Hr s W H,[]⟩ ((List.range H.length).map W) xc).run { tmps:=Y.toArray++Array.replicate (vK.ntmps-Y.toArray.size) undef,defers:=[] } s.w ⟨s,W,rfl,GS.LeX.refl _ s,R,λt U J=>?_,by simp;omega,rfl,λi o M=>?_,λi j o N z M E b xe xj=>?_,λi o b M xe=>?_⟩) ?_
 .obtain ⟨_,B⟩:=IL J
  rw[Nat.sub_zero]at B;have L:t<u.length:=(List.getElem?_eq_some_iff.1 B).1;have V:=q t U B
  have:(Y.toArray++Array.replicate (vK.ntmps-Y.toArray.size) undef).getD t undef=Y.getD t undef:=by
   exact ZfC
  show AVr (H++[Ow.pin _]).length W s U ((Y.toArray++Array.replicate (vK.ntmps-Y.toArray.size) undef).getD t undef);exact ZhX
 .show OwR 0 (H++[Ow.pin _]).length W s i o
  rw[n];rcases xb i o M with A | rfl
  .exact (f i o A).mono (Nat.le_succ _) (λ_ _=>rfl) (Ca A)
  .intro p Q
   obtain⟨k,A,rfl⟩:=Jw Q;rw[xc]at A;rw[Nat.zero_add];exact⟨by omega,Hv k A⟩
 .rcases xb i o M with A | rfl
  .rcases xb j N E with B | rfl
   .exact xi i j o N z A B b xe xj
   .exact xj.elim
  .exact xe.elim
 .rcases xb i o M with A | rfl
  .exact .inl ⟨i,o,A,xe⟩
  .exact xe.elim
 .intro e a w ⟨τ,⟨X,⟨r,Q,T,xl,m⟩,xk⟩,I,y,d,x⟩
  subst d;subst xl;rw[xc]at xk m;obtain⟨v,A,B⟩:=T.run _ y I a.tmps vK rfl x.hp x.fr
  have Z:∀i o,(τ.hp.set H.length .dead)[i]? = some o->o=Ow.dead\/τ.hp[i]? = some o:=λi o M=>ZaL
  have xa:Aft s W H l I y (τ.hp.set H.length .dead):=by
   refine⟨x.le,x.ok,λi o M=>?_,λi j o N z M E b xe xj=>?_,λi o b M xe=>?_,λi M xh=>?_,?_⟩
   .rw [List.length_set]
    rcases Z i o M with rfl | L
    .trivial
    .exact x.hp i o L
   .rcases Z i o M with rfl | L
    .exact xe.elim
    .rcases Z j N E with rfl | V
     .exact xj.elim
     .exact x.sep i j o N z L V b xe xj
   .rcases Z i o M with rfl | L
    .exact xe.elim
    .exact x.own i o b L xe
   .have L:=x.hp _ _ xk _ (Ps (i:=0) (k:=i) (by rw [xc]; exact M) (by rw [Nat.zero_add]; exact xh))
    rw[Hv i M,Nat.zero_add]at L;exact L.2.symm
   .rw [List.length_set]
    exact Nat.le_of_lt (Ca xk)
  have xg:AVr (τ.hp.set H.length .dead).length y I r v:=by rw[List.length_set];exact B
  rcases X with rfl | rfl
  .exact ⟨x.df,v,A,v,rfl,I,y,r,_,m,rfl,xg,xa⟩
  .exact ⟨x.df,v,A,v,rfl,I,y,r,_,m,rfl,xg,xa⟩
section
variable {P:Program} {f:FuncId} {fn:Func} {c:Code} {args:List AV} {Q:AV->List Ow->Prop} (hf:P.funcs[f]? = some fn) (hb:fn.body=some c) (hcf:∀args w,(callFunc f args).run P w=.ok (.enter f args) w) (hn:Nat.ble args.length fn.ntmps=true)
include hf hb hcf hn
end
theorem Be{r:AV}(h:RetsA P vc vK.results r)(f:FK vc.hp ub.length .dead=some H)(K:vv r H)(G:vc.hp[ub.length]? = some (.pin (EH l 0 ub))):FinC P vK l ub vv .ret vc:=⟨.inl rfl,⟨r,H,h,(Ey f),K⟩,G⟩
theorem AE{r:AV}(h:RetsA P vc vK.results r)(f:FK vc.hp ub.length .dead=some H)(K:vv r H)(G:vc.hp[ub.length]? = some (.pin (EH l 0 ub))):FinC P vK l ub vv .normal vc:=⟨.inr rfl,⟨r,H,h,(Ey f),K⟩,G⟩
def AV.ren(e:Nat->Nat):AV->AV
 |.d x=>.d x
 |.ptr i off=>.ptr (e i) off
 |.own i=>.own (e i)
 |.fn f N=>.fn f (N.map e)
def Ow.ren(e:Nat->Nat):Ow->Ow
 |.var T cells=>.var T (cells.map (AV.ren e))
 |.pin l=>.pin (l.map λp=>(p.1,p.2.ren e))
 |o=>o
def AV.below(m:Nat):AV->Bool
 |.d _=>true
 |.ptr i _=>Nat.blt i m
 |.own i=>Nat.blt i m
 |.fn _ N=>N.all (Nat.blt · m)
def Ow.below(m:Nat):Ow->Prop
 |.var _ cells=>∀U∈cells,U.below m=true
 |.pin l=>∀p∈l,p.2.below m=true
 |_=>True
theorem NR(A:h.below n=true):AVle H n h h:=by
 cases h with
 |d x=>exact AVle.d rfl
 |ptr i off=>exact AVle.ptr A
 |own i=>exact AVle.own A
 |fn f N=>exact BL A
theorem Aj{m:Nat}{l:List (Value×AV)}(h:l.all (λp=>p.2.below m)=true):OwLe H m (.pin l) (.pin l):=OwLe.pin λp H=>NR (List.all_eq_true.1 h p H)
theorem Af{m T:Nat}(h:u.all (AV.below m)=true):OwLe H m (.var T u) (.var T u):=OwLe.var rfl λk y O=>⟨y,O,NR (List.all_eq_true.1 h y (List.mem_of_getElem? O))⟩
theorem OH:OwB s z (vs.ren vB) n↔OwB s z vs n:=by cases vs<;>exact Iff.rfl
theorem AVr.un{e:Nat->Nat}(A:AVr n vg s (h.ren e) z)(F:h.below b=true)(G:∀i,i<b->vZ i=vg (e i)):AVr b vZ s h z:=by
 cases h with
 |d x=>exact A
 |ptr i off=>
  have M:i<b:=by simpa[AV.below,Nat.blt_eq]using F
  obtain⟨C,B,E,L⟩:=A;exact⟨M,B,(G i M).trans E,L⟩
 |own i=>
  have M:i<b:=by simpa[AV.below,Nat.blt_eq]using F
  exact⟨M,A.2.trans (G i M).symm⟩
 |fn f N=>
  have M:∀i∈N,i<b:=λi M=>by
   have:=List.all_eq_true.1 F i M;simpa[Nat.blt_eq]using this
  refine⟨M,?_⟩;have E:=A.2;rw[List.map_map]at E;rw[E];exact congrArg (fnV f) (List.map_congr_left λi t=>(G i (M i t)).symm)
theorem AVr.re(A:AVr n vg s h z)(X:∀i,i<n->vB i<b)(F:∀i,i<n->vZ (vB i)=vg i):AVr b vZ s (h.ren vB) z:=by
 cases h with
 |d x=>exact A
 |ptr i off=>
  obtain⟨C,B,E,L⟩:=A;exact⟨X i C,B,(F i C).trans E,L⟩
 |own i=>exact⟨X i A.1,A.2.trans (F i A.1).symm⟩
 |fn f N=>
  refine⟨λi M=>?_,?_⟩
  .obtain ⟨j,e,rfl⟩:=List.mem_map.1 M
   exact X j (A.1 j e)
  .rw [List.map_map,A.2,List.map_congr_left λi M=>(F i (A.1 i M)).symm]
   rfl
theorem OwR.un{e:Nat->Nat}(h:OwR 0 n vg s (e T) (vs.ren e))(G:vs.below b)(M:T<b)(x:∀T,T<b->vZ T=vg (e T)):OwR 0 b vZ s T vs:=by
 cases vs with
 |dead=>trivial
 |var E cells=>
  obtain⟨A,a,B,C,L,V,m,z,d⟩:=h;refine⟨A,a,(x T M).trans B,C,L,by simpa using V,m,z,λk U F=>?_⟩;obtain⟨u,K,N,Q⟩:=d k (U.ren e) (by rw[List.getElem?_map,F];rfl);exact⟨u,K,N,Q.un (G U (List.mem_of_getElem? F)) x⟩
 |row E J y=>
  replace h:OwR 0 n vg s (e T) (.row E J y):=h;unfold OwR at h ⊢;rw[x T M];exact h
 |obj O=>
  show O.rel s (vZ T);rw[x T M];exact h
 |pin l=>exact λp I=>(h (p.1,p.2.ren e) (List.mem_map_of_mem (f:=λp:Value×AV=>(p.1,p.2.ren e)) I)).un (G p I) x
theorem OwR.re(h:OwR 0 n vg s T vs)(M:T<n)(X:∀T,T<n->vB T<b)(x:∀T,T<n->vZ (vB T)=vg T):OwR 0 b vZ s (vB T) (vs.ren vB):=by
 cases vs with
 |dead=>trivial
 |var E cells=>
  obtain⟨A,a,B,C,L,V,m,z,d⟩:=h;refine⟨A,a,(x T M).trans B,C,L,by simpa using V,m,z,λk U F=>?_⟩;rw[List.getElem?_map]at F
  cases N:cells[k]? with
  |none=>rw[N]at F;cases F
  |some R=>
   rw[N]at F;cases F;obtain⟨u,J,K,Q⟩:=d k R N;exact⟨u,J,K,Q.re X x⟩
 |row E I y=>
  show OwR 0 b vZ s (vB T) (.row E I y);unfold OwR at h ⊢;rw[x T M];exact h
 |obj O=>
  show O.rel s (vZ (vB T));rw[x T M];exact h
 |pin l=>
  intro p G;obtain⟨q,w,rfl⟩:=List.mem_map.1 G;exact(h q w).re X x
def BG(sel:List Nat)(m k:Nat):Nat:=bif Nat.blt k sel.length then sel.getD k 0 else m+(k-sel.length)
theorem EA(h:b<l.length):BG l n b=l.getD b 0:=by
 have:Nat.blt b l.length=true:=by simpa[Nat.blt_eq]using h
 rw[BG,this];rfl
theorem IQ(h:l.length<=b):BG l n b=n+(b-l.length):=by
 have:Nat.blt b l.length=false:=by cases F:Nat.blt b l.length<;>simp_all [Nat.blt_eq];omega
 rw[BG,this];rfl
def SelR(e:Nat->Nat)(H:List Ow)(m:Nat):List Nat->List Ow->Prop
 |[],[]=>True
 |j::G,o::os=>H[j]? = some (o.ren e)/\o.below m/\SelR e H m G os
 |_,_=>False
theorem SelR.get{e:Nat->Nat}{H:List Ow}{m:Nat}:∀{G:List Nat} {os:List Ow},SelR e H m G os->G.length=os.length/\∀(k:Nat) o,os[k]? = some o->H[G.getD k 0]? = some (o.ren e)/\o.below m
 |[],[],_=>⟨rfl,λk o h=>by cases h⟩
 |[],_::_,h=>h.elim
 |_::_,[],h=>h.elim
 |j::G,o::os,⟨A,B,L⟩=>by
  obtain⟨V,C⟩:=SelR.get L;refine⟨by simp[V],λk x E=>?_⟩
  cases k with
  |zero=>cases E;exact⟨A,B⟩
  |succ k=>exact C k x Zei
def SetR(e:Nat->Nat):List Ow->List Nat->List Ow->List Ow->Prop
 |H,[],_,u=>H=u
 |H,j::G,o::os,u=>SetR e (H.set j (o.ren e)) G os u
 |_,_::_,[],_=>False
theorem SetR.get{e:Nat->Nat}:∀{G:List Nat} {H os u:List Ow},SetR e H G os u->u.length=H.length/\G.length<=os.length/\∀(i:Nat) x,u[i]? = some x->(∃k o,k<G.length/\G.getD k 0=i/\os[k]? = some o/\x=o.ren e)\/(i∉G/\H[i]? = some x)
 |[],H,os,u,h=>by
  have h:H=u:=by cases os<;>exact h
  subst h;exact⟨rfl,Nat.zero_le _,λi x E=>.inr ⟨by simp,E⟩⟩
 |_::_,_,[],_,h=>h.elim
 |j::G,H,o::os,u,h=>by
  replace h:SetR e (H.set j (o.ren e)) G os u:=h;obtain⟨A,B,L⟩:=SetR.get h;refine⟨by simpa using A,by simp;omega,λi x E=>?_⟩;rcases L i x E with⟨k,l,V,m,z,d⟩ | ⟨V,m⟩
  .exact .inl ⟨k+1,l,by simp;omega,by simpa using m,by simpa using z,d⟩
  .rw [List.getElem?_set]at m
   split at m
   .rename_i c
    subst c;split at m
    .exact .inl ⟨0,o,by simp,rfl,rfl,(Option.some.inj m).symm⟩
    .cases m
   .rename_i c
    exact .inr ⟨by simp only[List.mem_cons,not_or];exact⟨λe=>c e.symm,V⟩,m⟩
theorem RK(h:l.Nodup)(M:n<l.length)(B:b<l.length)(e:l[n]=l[b]):n=b:=by
 rcases Nat.lt_trichotomy n b with A | A | A
 .exact absurd e (List.pairwise_iff_getElem.1 h n b M B A)
 .exact A
 .exact absurd e.symm (List.pairwise_iff_getElem.1 h b n B M A)
def AV.avoid(lost:List Nat):AV->Bool
 |.d _=>true
 |.ptr i _=>!lost.contains i
 |.own i=>!lost.contains i
 |.fn _ N=>N.all λi=>!lost.contains i
def Ow.avoid(lost:List Nat):Ow->Prop
 |.var _ cells=>∀U∈cells,U.avoid lost=true
 |.pin l=>∀p∈l,p.2.avoid lost=true
 |_=>True
theorem PA(h:(!l.contains n)=true):n∉l:=λt=>by
 rw[List.contains_iff_mem.2 t]at h;cases h
theorem AVr.kept(A:AVr n vg s h z)(t:n<=b)(F:h.avoid l=true)(G:∀i,i<n->i∉l->vZ i=vg i):AVr b vZ s h z:=by
 cases h with
 |d x=>exact A
 |ptr i off=>
  obtain⟨C,B,E,L⟩:=A;exact⟨Nat.lt_of_lt_of_le C t,B,(G i C (PA F)).trans E,L⟩
 |own i=>exact⟨Nat.lt_of_lt_of_le A.1 t,A.2.trans (G i A.1 (PA F)).symm⟩
 |fn f N=>exact⟨λi M=>Nat.lt_of_lt_of_le (A.1 i M) t,by rw[A.2,List.map_congr_left λi M=>(G i (A.1 i M) (PA (List.all_eq_true.1 F i M))).symm]⟩
theorem OwR.kept(h:OwR 0 n vg s T vs)(t:n<=b)(N:vs.avoid l)(M:T<n)(K:T∉l)(x:∀T,T<n->T∉l->vZ T=vg T):OwR 0 b vZ s T vs:=by
 cases vs with
 |dead=>trivial
 |var F cells=>
  obtain⟨A,a,B,E,L,V,m,z,d⟩:=h;refine⟨A,a,(x T M K).trans B,E,L,V,m,z,λk U G=>?_⟩;obtain⟨u,Q,S,R⟩:=d k U G;exact⟨u,Q,S,R.kept t (N U (List.mem_of_getElem? G)) x⟩
 |row F J y=>
  unfold OwR at h ⊢;rw[x T M K];exact h
 |obj O=>
  unfold OwR at h ⊢;rw[x T M K];exact h
 |pin C=>exact λp I=>(h p I).kept t (N p I) x
theorem StI.con{s0:An}{a:Act}{sel lost:List Nat}{hpS hp' H1:List Ow}(Y:(∀p∈vc.fr,p.2.avoid (lost.map (BG sel vc.hp.length))=true)/\∀i o,i∉sel->vc.hp[i]? = some o->o.avoid (lost.map (BG sel vc.hp.length)))(xi:∀k∈lost,k<sel.length)(h:StI s0 n vc a s vg)(xe:sel.Nodup)(xa:SelR (BG sel vc.hp.length) vc.hp hpS.length sel hpS)
  (xb:Aft s (λk=>vg (BG sel vc.hp.length k)) hpS lost vq vZ hp') (xd:SetR (BG sel vc.hp.length) vc.hp sel hp' H1) :
  ∃xk,StI s0 n ⟨vc.fr,H1++(hp'.drop sel.length).map (Ow.ren (BG sel vc.hp.length))⟩ a vq xk/\∀U v,AVr hp'.length vZ vq U v->AVr (H1++(hp'.drop sel.length).map (Ow.ren (BG sel vc.hp.length))).length xk vq (U.ren (BG sel vc.hp.length)) v:=by
 obtain⟨S,W⟩:=xa.get;obtain⟨m,xn,xl⟩:=xd.get;have R:(H1++(hp'.drop sel.length).map (Ow.ren (BG sel vc.hp.length))).length=vc.hp.length+(hp'.length-sel.length):=by simp[m]
 have xj:∀k,k<sel.length->sel.getD k 0<vc.hp.length:=λk C=>by
  have g:k<hpS.length:=by omega
  exact Ca (W k _ (List.getElem?_eq_getElem g)).1
 have xp:∀k,k<sel.length->sel.getD k 0∈sel:=λk C=>by
  exact ZgK
 have xu:∀j k,j<sel.length->k<sel.length->sel.getD j 0=sel.getD k 0->j=k:=λj k G C X=>by
  rw[List.getD_eq_getElem?_getD,List.getElem?_eq_getElem G,List.getD_eq_getElem?_getD,List.getElem?_eq_getElem C]at X;exact RK xe G C X
 have z:∀i,∃k,(∃Z,Z<sel.length/\sel.getD Z 0=i)->k<sel.length/\sel.getD k 0=i:=λi=>by
  by_cases E:∃Z,Z<sel.length/\sel.getD Z 0=i
  .obtain ⟨k,C⟩:=E
   exact⟨k,λ_=>C⟩
  .exact ⟨0,λh=>absurd h E⟩
 obtain⟨pos,z⟩:∃pos:Nat->Nat,∀i,(∃Z,Z<sel.length/\sel.getD Z 0=i)->pos i<sel.length/\sel.getD (pos i) 0=i:=⟨λi=>(z i).choose,λi=>(z i).choose_spec⟩;let H:Nat->Value:=λi=>if i<vc.hp.length then(if i∈sel then vZ (pos i)else vg i)else vZ (i-vc.hp.length+sel.length)
 have xx:∀i,i∈sel->∃Z,Z<sel.length/\sel.getD Z 0=i:=λi M=>by
  obtain⟨k,C⟩:=List.getElem?_of_mem M;have:=(List.getElem?_eq_some_iff.1 C).1;exact⟨k,this,by rw[List.getD_eq_getElem?_getD,C];rfl⟩
 have xr:∀i,i<hp'.length->H (BG sel vc.hp.length i)=vZ i:=λi M=>by
  rcases Nat.lt_or_ge i sel.length with A | A
  .have L:=z _ ⟨i,A,rfl⟩
   rw[EA A];show(if sel.getD i 0<vc.hp.length then(if sel.getD i 0∈sel then vZ (pos (sel.getD i 0))else _)else _)=_;rw[if_pos (xj i A),if_pos (xp i A),xu _ _ L.1 A L.2]
  .rw [IQ A]
   show(if _ then _ else vZ (vc.hp.length+(i-sel.length)-vc.hp.length+sel.length))=_;rw[if_neg ZbK];exact Zgm
 have xs:∀i,i<vc.hp.length->i∉lost.map (BG sel vc.hp.length)->H i=vg i:=λi M xf=>by
  show(if i<vc.hp.length then(if i∈sel then vZ (pos i)else vg i)else _)=_;rw[if_pos M];by_cases E:i∈sel
  .rw [if_pos E]
   obtain⟨A,B⟩:=z i (xx i E);have L:pos i∉lost:=λK=>xf (List.mem_map.2 ⟨pos i,K,by rw[EA A,B]⟩);rw[xb.kp (pos i) ZbK L,EA A,B]
  .rw [if_neg E]
 have xv:∀i,i∉sel->i∉lost.map (BG sel vc.hp.length):=λi M K=>by
  obtain⟨k,A,B⟩:=List.mem_map.1 K;have L:=xi k A;rw[EA L]at B;exact M (by rw[<-B];exact xp k L)
 have xh:∀i,i<hp'.length->BG sel vc.hp.length i<vc.hp.length+(hp'.length-sel.length):=λi M=>by
  rcases Nat.lt_or_ge i sel.length with A | A
  .rw [EA A]
   have:=xj i A;omega
  .rw [IQ A]
   omega
 have xt:∀i j,i<hp'.length->j<hp'.length->BG sel vc.hp.length i=BG sel vc.hp.length j->i=j:=λi j M G X=>by
  rcases Nat.lt_or_ge i sel.length with A | A<;>rcases Nat.lt_or_ge j sel.length with B | B
  .rw [EA A,EA B]at X
   exact xu i j A B X
  .rw [EA A,IQ B]at X
   have:=xj i A;omega
  .rw [IQ A,EA B]at X
   have:=xj j B;omega
  .rw [IQ A,IQ B]at X
   omega
 have r:∀i x,(H1++(hp'.drop sel.length).map (Ow.ren (BG sel vc.hp.length)))[i]? = some x->(∃k o,hp'[k]? = some o/\i=BG sel vc.hp.length k/\x=o.ren (BG sel vc.hp.length))\/(i<vc.hp.length/\i∉sel/\vc.hp[i]? = some x):=λi x E=>by
  rw[List.getElem?_append]at E;split at E
  .rename_i Q
   rcases xl i x E with⟨k,o,A,B,L,V⟩ | ⟨A,B⟩
   .exact .inl ⟨k,o,L,by rw[EA A];exact B.symm,V⟩
   .exact .inr ⟨by omega,A,B⟩
  .rename_i u
   rw[List.getElem?_map,List.getElem?_drop]at E
   cases C:hp'[sel.length+(i-H1.length)]? with
   |none=>rw[C]at E;cases E
   |some o=>
    rw[C]at E;exact .inl ⟨_,o,C,by rw[IQ ZbK];omega,(Option.some.inj E).symm⟩
 have xo:∀b,Hr s (λk=>vg (BG sel vc.hp.length k)) hpS b->∃k o,k<sel.length/\hpS[k]? = some o/\vc.hp[sel.getD k 0]? = some (o.ren (BG sel vc.hp.length))/\OwB s (vg (sel.getD k 0)) (o.ren (BG sel vc.hp.length)) b:=λb ⟨k,o,A,B⟩=>by
  have C:k<sel.length:=by have:=Ca A;omega
  replace B:OwB s (vg (BG sel vc.hp.length k)) o b:=B;rw[EA C]at B;exact⟨k,o,C,A,(W k o A).1,OH.2 B⟩
 have w:∀i x,i∉sel->vc.hp[i]? = some x->∀b,OwB s (vg i) x b->¬Hr s (λk=>vg (BG sel vc.hp.length k)) hpS b:=λi x M E b F K=>by
  obtain⟨k,o,A,B,L,V⟩:=xo b K;exact h.sep i _ x _ (λe=>M (by rw[e];exact xp k A)) E L b F V
 have xw:∀i x,i∉sel->vc.hp[i]? = some x->∀b,OwB s (vg i) x b->vq.w.heap[b]? = s.w.heap[b]? /\ ∀k,vq.S b k↔s.S b k:=λi x M E b F=>by
  have A:=w i x M E b F;have B:=(h.hp i x E).blk_lt0 F;exact⟨xb.le.block b B A,λk=>⟨xb.le.old b k B A,xb.le.chg.up b k⟩⟩
 have xc:∀i x,i<vc.hp.length->i∉sel->vc.hp[i]? = some x->∀b,OwB vq (H i) x b->OwB s (vg i) x b:=λi x Q M E b F=>OwB.keep (h.hp i x E) xb.le.chg (xw i x M E) (by rw[<-xs i Q (xv i M)];exact F)
 have T:∀k o b,hp'[k]? = some o->OwB vq (H (BG sel vc.hp.length k)) (o.ren (BG sel vc.hp.length)) b->OwB vq (vZ k) o b:=λk o b C F=>by
  rw[xr k (Ca C)]at F;exact OH.1 F
 have xq:∀b,Hr s (λk=>vg (BG sel vc.hp.length k)) hpS b->s0.mine b\/s0.g.w.heap.size<=b:=λb K=>by
  obtain⟨k,o,A,B,L,V⟩:=xo b K;exact h.own _ _ b L V
 refine⟨H,⟨?_,xb.ok,λt U J=>?_,h.sz,h.df,λi x E=>?_,λi j x y c E O b xm xg=>?_,λi x b E F=>?_⟩,λU v q=>?_⟩
 .refine ⟨xb.le.os.trans h.le.os,xb.le.tape.trans h.le.tape,xb.le.output.trans h.le.output,λk C K=>?_,h.le.chg.trans xb.le.chg,λb k F K f=>?_,λb F=>(xb.le.tag b (Nat.lt_of_lt_of_le F h.le.size)).trans (h.le.tag b F),λ_=>xb.ok⟩
  .have I:¬Hr s (λk=>vg (BG sel vc.hp.length k)) hpS k:=λE=>(xq k E).elim K λN=>absurd C ZbK
   exact(xb.le.block k (Nat.lt_of_lt_of_le C h.le.size) I).trans (h.le.block k C K)
  .have I:¬Hr s (λk=>vg (BG sel vc.hp.length k)) hpS b:=λE=>(xq b E).elim K λN=>absurd F ZbK
   exact h.le.old b k F K (xb.le.old b k (Nat.lt_of_lt_of_le F h.le.size) I f)
 .show AVr (H1++_).length H vq U _
  rw[R];exact((h.fr t U J).chg xb.le.chg).kept ZbK (Y.1 _ (En J)) xs
 .show OwR 0 (H1++_).length H vq i x
  rw[R];rcases r i x E with⟨k,o,A,rfl,rfl⟩ | ⟨A,B,L⟩
  .exact (xb.mem k o A).re (Ca A) xh xr
  .exact ((h.hp i x L).keep xb.le.chg (xw i x B L)).kept ZbK (Y.2 i x B L) A (xv i B) xs
 .rcases r i x E with⟨k,o,A,rfl,rfl⟩ | ⟨A,B,L⟩<;>rcases r j y O with⟨Z,l,V,rfl,rfl⟩ | ⟨V,h5,h6⟩
  .exact xb.sep k Z o l (λe=>c ZeC) A V b (T k o b A xm) (T Z l b V xg)
  .have P:=xc j y V h5 h6 b xg
   rcases xb.own k o b A (T k o b A xm)with d | d
   .exact w j y h5 h6 b P d
   .have:=(h.hp j y h6).blk_lt0 P
    omega
  .have P:=xc i x A B L b xm
   rcases xb.own Z l b V (T Z l b V xg)with d | d
   .exact w i x B L b P d
   .have:=(h.hp i x L).blk_lt0 P
    omega
  .exact h.sep i j x y c L h6 b (xc i x A B L b xm) (xc j y V h5 h6 b xg)
 .rcases r i x E with⟨k,o,A,rfl,rfl⟩ | ⟨A,B,L⟩
  .rcases xb.own k o b A (T k o b A F)with d | d
   .exact xq b d
   .exact .inr (Nat.le_trans h.le.size d)
  .exact h.own i x b L (xc i x A B L b F)
 .rw [R]
  exact q.re xh xr
def A75(G:List Ow)(e:Nat->Nat)(m:Nat)(y a:AV):Prop:=(∃d S,a=.d d/\GG G y=some S/\D.le S d)\/(y=a.ren e/\a.below m=true)
def ArgsC(G:List Ow)(e:Nat->Nat)(m:Nat)(arg:Operand->AV):List Operand->List AV->Prop
 |[],[]=>True
 |x::l,a::r=>A75 G e m (arg x) a/\ArgsC G e m arg l r
 |_,_=>False
theorem ArgsC.get{G:List Ow}{e:Nat->Nat}{m:Nat}{arg:Operand->AV}:∀{l:List Operand} {r:List AV},ArgsC G e m arg l r->l.length=r.length/\∀(k:Nat) a,r[k]? = some a->∃x,l[k]? = some x/\A75 G e m (arg x) a
 |[],[],_=>⟨rfl,λk o h=>by cases h⟩
 |[],_::_,h=>h.elim
 |_::_,[],h=>h.elim
 |x::l,a::r,⟨A,B⟩=>by
  obtain⟨V,C⟩:=ArgsC.get B;refine⟨by simp[V],λk y O=>?_⟩
  cases k with
  |zero=>cases O;exact⟨x,rfl,A⟩
  |succ k=>simpa using C k y ZeG
theorem ArgsC.nil{hp:List Ow}{e:Nat->Nat}{m:Nat}:ArgsC hp e m vz [] []:=trivial
theorem ArgsC.d{hp:List Ow}{e:Nat->Nat}{m:Nat}{arg:Operand->AV}{l:List Operand}{d S:D}(h:GG hp (arg x)=some S)(K:D.le S d)(b:ArgsC hp e m arg l u):ArgsC hp e m arg (x::l) (.d d::u):=⟨.inl ⟨d,S,rfl,h,K⟩,b⟩
theorem ArgsC.av{hp:List Ow}{e:Nat->Nat}{m:Nat}{l:List Operand}{a:AV}(h:vz x=a.ren e)(F:a.below m=true)(b:ArgsC hp e m vz l u):ArgsC hp e m vz (x::l) (a::u):=⟨.inr ⟨h,F⟩,b⟩
theorem SelR.nil{e:Nat->Nat}{m:Nat}:SelR e H m [] []:=trivial
theorem SelR.row{e:Nat->Nat}{m j T sz:Nat}(h:H[j]? = some (.row T sz vl))(b:SelR e H m l vA):SelR e H m (j::l) (.row T sz vl::vA):=⟨h,trivial,b⟩
theorem SelR.varA{e:Nat->Nat}{m j:Nat}(h:H[j]? = some (.var t up))(B:up=u.map (AV.ren e))(F:u.all (AV.below m)=true)(b:SelR e H m l vA):SelR e H m (j::l) (.var t u::vA):=⟨by rw[h,B];rfl,List.all_eq_true.1 F,b⟩
def OwRen(e:Nat->Nat)(o l:Ow):Prop:=l=o.ren e
theorem OwRen.dead{e:Nat->Nat}:OwRen e .dead .dead:=rfl
theorem SetR.nil{e:Nat->Nat}:SetR e H [] vA H:=by cases vA<;>rfl
theorem SetR.cons{e:Nat->Nat}{H y os u:List Ow}{j:Nat}(h:OwRen e vs uI)(f:FK H j uI=some y)(b:SetR e y l os u):SetR e H (j::l) (vs::os) u:=by
 rw[Ey f,h]at b;exact b
def AppR(e:Nat->Nat)(H os u:List Ow):Prop:=u=H++os.map (Ow.ren e)
theorem AppR.nil{e:Nat->Nat}:AppR e H [] H:=by simp[AppR]
def KP:Nat->List Ow->List Ow
 |0,l=>l
 |n+1,_::l=>KP n l
 |_+1,[]=>[]
theorem LM:∀(n:Nat) (l:List Ow),KP n l=l.drop n
 |0,l=>rfl
 |n+1,_::l=>LM n l
 |_+1,[]=>rfl
def AVRen(e:Nat->Nat)(a Q:AV):Prop:=Q=a.ren e
theorem AVRen.d{e:Nat->Nat}{x:D}:AVRen e (.d x) (.d x):=rfl
theorem AVRen.own{e:Nat->Nat}{i j:Nat}(h:e i=j):AVRen e (.own i) (.own j):=by subst h;rfl
theorem A37(h:l.map vB=f):AVRen vB (.fn vb l) (.fn vb f):=by subst h;rfl
def CapsOk(J:List Ow):List Nat->Prop
 |[]=>True
 |i::l=>(∃T cells,J[i]? = some (.var T cells))/\CapsOk J l
theorem CapsOk.get{hpS:List Ow}:∀{l:List Nat},CapsOk hpS l->∀i∈l,∃T cells,hpS[i]? = some (.var T cells)
 |[],_,i,M=>by cases M
 |j::l,⟨A,B⟩,i,M=>by
  rcases List.mem_cons.1 M with rfl | M
  .exact A
  .exact CapsOk.get B i M
def AvoidR(sel lost:List Nat):Nat->List Ow->Prop
 |_,[]=>True
 |i,o::l=>(i∈sel\/o.avoid lost)/\AvoidR sel lost (i+1) l
theorem AvoidR.get{sel lost:List Nat}:∀{l:List Ow} {i:Nat},AvoidR sel lost i l->∀k o,i+k∉sel->l[k]? = some o->o.avoid lost
 |[],_,_,k,o,_,h=>by cases h
 |x::l,i,⟨A,B⟩,0,o,C,h=>by
  cases h;exact A.resolve_left C
 |x::l,i,⟨A,B⟩,k+1,o,C,h=>AvoidR.get B k o (by rwa [show i+1+k=i+(k+1)by omega]) ZcY
section
variable {sel lost:List Nat} {i:Nat} {l:List Ow}
theorem AvoidR.nil:AvoidR sel lost i []:=trivial
theorem Ai(h:sel.contains i=true)(b:AvoidR sel lost (i+1) l):AvoidR sel lost i (vs::l):=⟨.inl (List.contains_iff_mem.1 h),b⟩
theorem AvoidR.varD(b:AvoidR sel lost (i+1) l):AvoidR sel lost i (.var t (c.map .d)::l):=⟨.inr λU R=>by obtain⟨d,_,rfl⟩:=List.mem_map.1 R;rfl,b⟩
theorem AvoidR.pin{c:List (Value×AV)}(h:c.all (λp=>p.2.avoid lost)=true)(b:AvoidR sel lost (i+1) l):AvoidR sel lost i (.pin c::l):=⟨.inr (List.all_eq_true.1 h),b⟩
end
def LostOk(sel T:List Nat)(m:Nat)(Y:List (Nat×AV))(G:List Ow):Prop:=T=[]\/(T.all (Nat.blt · sel.length)=true/\Y.all (λp=>p.2.avoid (T.map (BG sel m)))=true/\AvoidR sel (T.map (BG sel m)) 0 G)
theorem AV.avoid_nil(U:AV):U.avoid []=true:=by
 cases U with
 |fn f N=>exact List.all_eq_true.2 λi _=>rfl
 |_=>rfl
theorem Ow.avoid_nil(o:Ow):o.avoid []:=by
 cases o with
 |var T c=>exact λU _=>U.avoid_nil
 |pin l=>exact λp _=>p.2.avoid_nil
 |_=>trivial
theorem LostOk.get{sel lost:List Nat}(h:LostOk sel lost n vf H):((∀p∈vf,p.2.avoid (lost.map (BG sel n))=true)/\∀i o,i∉sel->H[i]? = some o->o.avoid (lost.map (BG sel n)))/\∀k∈lost,k<sel.length:=by
 rcases h with rfl | ⟨h1,h2,h3⟩
 .exact ⟨⟨λp _=>p.2.avoid_nil,λi o _ _=>o.avoid_nil⟩,λk C=>by cases C⟩
 .exact ⟨⟨List.all_eq_true.1 h2,λi o M A=>h3.get i o (by rwa [Nat.zero_add]) A⟩,λk C=>by simpa[Nat.blt_eq]using List.all_eq_true.1 h1 k C⟩
section
variable {P:Program} {s0:An} {n:Nat} {ops:Array Oper} {Q:Exit->AS->Prop} {rest:List Oper} {fr:List (Nat×AV)} {hp:List Ow}
end
end Go.Proofs.YtcikkglcoeedlaaGreat
set_option linter.unusedSimpArgs false
set_option linter.unusedVariables false
namespace Go.Proofs.YtcikkglcoeedlaaGreat
open Go.RowKit
section
variable {P:Program} {s0:An} {n:Nat} {ops:Array Oper} {Q:Exit->AS->Prop} {rest:List Oper} {fr:List (Nat×AV)} {hp:List Ow}
variable{l:List Nat}{H vA uO:List Ow}
theorem Kr{t m:Nat}{r b:AV}(h:AWl P s0 n ops Q rest ⟨(t,b)::fr,uO⟩)(A:AVRen (BG l m) r b:=by first | exact AVRen.d | exact AVRen.own rfl | exact AVRen.ptr rfl | exact A37 rfl)(B:SetR (BG l m) hp l H vA:=by repeat (first | exact SetR.nil | (apply SetR.cons;(first | exact OwRen.dead | exact OwRen.varD | exact OwRen.obj | exact OwRen.row | exact OwRen.varA rfl);exact rfl)))(L:AppR (BG l m) vA (KP l.length H) uO:=by repeat (first | exact AppR.nil | (apply AppR.cons;(first | exact OwRen.dead | exact OwRen.varD | exact OwRen.obj | exact OwRen.row | exact OwRen.varA rfl);exact rfl))):∃b vA uO,AVRen (BG l m) r b/\SetR (BG l m) hp l H vA/\AppR (BG l m) vA (KP l.length H) uO/\AWl P s0 n ops Q rest ⟨(t,b)::fr,uO⟩:=⟨_,_,_,A,B,L,h⟩
end
def DownR(id:Nat)(x:D):List Ow->List Ow->Prop
 |[],[]=>True
 |o::l,A::P=>A=o.mapA (down id x)/\DownR id x l P
 |_,_=>False
theorem DownR.eq{id:Nat}{x:D}:∀{l P:List Ow},DownR id x l P->P=l.map (Ow.mapA (down id x))
 |[],[],_=>rfl
 |[],_::_,h=>h.elim
 |_::_,[],h=>h.elim
 |o::l,C::P,⟨A,B⟩=>by rw[List.map_cons,<-A,DownR.eq B]
section
variable {id:Nat} {x:D} {l l':List Ow}
theorem DownR.nil:DownR id x [] []:=trivial
theorem DownR.row{T sz:Nat}{r:List (List D)}(h:DownR id x l l'):DownR id x (.row T sz r::l) (.row T sz r::l'):=⟨rfl,h⟩
theorem DownR.pin{c:List (Value×AV)}(I:Fl id (c.map (·.2))=true)(h:DownR id x l l'):DownR id x (.pin c::l) (.pin c::l'):=⟨by simp only[Ow.mapA,Pr I],h⟩
def JM(id:Nat)(x:D):List AV->Option (List AV)
 |[]=>some []
 |.own j::l=>match JM id x l with
  |some r=>bif Nat.beq j id then some (.d x::r)else some (.own j::r)
  |none=>none
 |.d y::l=>match JM id x l with
  |some r=>some (.d y::r)
  |none=>none
 |.ptr i off::l=>match JM id x l with
  |some r=>some (.ptr i off::r)
  |none=>none
 |.fn f c::l=>match JM id x l with
  |some r=>bif c.contains id then some (.d Cs::r)else some (.fn f c::r)
  |none=>none
theorem UZ:∀{c B:List AV},JM id x c=some B->B=c.map (down id x)
 |[],B,h=>by cases h;rfl
 |U::c,B,h=>by
  have key:∃b,JM id x c=some b/\B=down id x U::b:=by
   cases U with
   |d y=>unfold JM at h;split at h<;>first |(cases h;done) |(rename_i b a;cases h;exact⟨b,a,rfl⟩)
   |ptr i o=>unfold JM at h;split at h<;>first |(cases h;done) |(rename_i b a;cases h;exact⟨b,a,rfl⟩)
   |own j=>
    unfold JM at h;split at h
    .rename_i b a
     refine⟨b,a,?_⟩
     cases F:Nat.beq j id with
     |true=>rw[F]at h;cases h;exact Zhn
     |false=>rw[F]at h;cases h;exact Zhn
    .cases h
   |fn f g=>
    unfold JM at h;split at h
    .rename_i b a
     refine⟨b,a,?_⟩
     cases F:g.contains id with
     |true=>rw[F]at h;cases h;exact Zhn
     |false=>rw[F]at h;cases h;exact Zhn
    .cases h
  obtain⟨b,A,rfl⟩:=key;rw[UZ A];rfl
variable{t:TypeId}
theorem DownR.varA{c f:List AV}(I:JM id x c=some f)(h:DownR id x l l'):DownR id x (.var t c::l) (.var t f::l'):=⟨by rw[UZ I];rfl,h⟩
end
section
variable {P:Program} {s0:An} {n:Nat} {ops:Array Oper} {Q:Exit->AS->Prop} {rest:List Oper} {fr:List (Nat×AV)} {hp:List Ow} {ty:TypeId} {ps:String} {af:Array Edge}
variable{vf:List (Nat×AV)}{H vA:List Ow}{x y:Operand}{z v:Value}
theorem Mv{t T F k bytes id m b e:Nat}{d:TypeDesc}{A r2:List (List D)}(E:AS.arg ⟨fr,hp⟩ x=.own id)(O:GG hp (AS.arg ⟨fr,hp⟩ y)=some (slD F k r2))(l:hp[id]? = some (.row T k A))(J:Tab P t (.slice T) m b v)(B:Tab P T d k bytes z)(G:z.cells.size=k)(Z:Nat.blt e n=true)(j:(A.length+r2.length)*bytes<=140737488355328)(C:A.length+r2.length<=4611686018427387904)
  (p:Iz id (slD T k A) fr=some vf) (K:DownR id (slD T k A) hp H) (f:FK H id (.row T k (A++r2))=some vA) (h:AWl P s0 n ops Q rest ⟨(e,.own id)::vf,vA⟩) :
  AWl P s0 n ops Q (⟨some e,.call { callee:=.builtin .append,args:=#[x,y],argTypes:=#[t,t] },ty,ps,af,none⟩::rest) ⟨fr,hp⟩:=by
 refine QS rfl rfl E O l J B G (by simpa[TU]using Z) j C ?_;rw[Qc p,Ey f,K.eq]at h;exact h
def A1h:List AV->Nat->AV->Option (List AV)
 |[],_,_=>none
 |_::l,0,x=>some (x::l)
 |y::l,k+1,x=>match A1h l k x with
  |some r=>some (y::r)
  |none=>none
theorem SE:∀{l:List AV} {k:Nat} {x:AV} {r:List AV},A1h l k x=some r->k<l.length/\r=l.set k x
 |[],_,_,_,h=>by cases h
 |_::l,0,x,r,h=>by cases h;exact⟨by simp,rfl⟩
 |y::l,k+1,x,r,h=>by
  unfold A1h at h;split at h
  .rename_i b a
   cases h;obtain⟨A,B⟩:=SE a;exact⟨by simpa using A,by rw[B];rfl⟩
  .cases h
variable{h:AV}{u up:List AV}{t U:TypeId}
theorem FI{d:TypeDesc}{b id off:Nat}(E:AS.arg ⟨fr,hp⟩ x=.ptr id off)(O:AS.arg ⟨fr,hp⟩ y=h)(l:hp[id]? = some (.var U u))(J:Tab P t d 1 b z)(B:One hp h)(K:A1h u off h=some up)(f:FK hp id (.var U up)=some H)(A:AWl P s0 n ops Q rest ⟨fr,H⟩) :
  AWl P s0 n ops Q (⟨none,.store t x y,ty,ps,af,none⟩::rest) ⟨fr,hp⟩:=by
 obtain⟨C,L⟩:=SE K;refine QR (o:=⟨none,.store t x y,ty,ps,af,none⟩) rfl rfl rfl E O l J B C ?_;rw[Ey f,L]at A;exact A
theorem Lv{m:Nat}(id k T R:Nat)(p:hp[id]? = some (.var t u))(I:u[k]? = some (.d (ex (.slice none 0 0))))(c:T≠335)(g:0<R)(S:Ht hp=some m)(xg:A1h u k (.own m)=some up)(xe:FK hp id (.var t up)=some H)(f:Fy H (.row T R [])=some vA):AS.le ⟨fr,hp⟩ ⟨fr,vA⟩:=by
 rw[EF f,Ey xe];obtain⟨E,xg⟩:=SE xg;obtain rfl:=Fi S;subst xg;have xa:id<hp.length:=Ca p;intro s0 n a w ⟨s,W,Y,X⟩;have q:(hp++[Ow.row T R []]).length=hp.length+1:=by simp
 have xd := X.new (GS.Le.refl s) (dst := none) (fun d Z => by cases Z) (v := .slice none 0 0) (u := .slice none 0 0) (r := .own hp.length) (ow := .row T R []) ⟨Nat.lt_succ_self _, by simp⟩
  ⟨[],⟨by simp,.inl ⟨by simp,rfl⟩⟩,c,g,λb F=>by simp[Dg]at F,λk E=>by simp at E⟩ λb F=>by cases F
 have xc:∀i o,(hp.set id (.var t (u.set k (.own hp.length)))++[Ow.row T R []])[i]? = some o->(i=id/\o=.var t (u.set k (.own hp.length)))\/(hp++[Ow.row T R []])[i]? = some o:=λi o M=>by
  by_cases e:i=id
  .subst e
   rw[List.getElem?_append_left (by rw[List.length_set];exact xa),List.getElem?_set_self xa]at M;exact .inl ⟨rfl,(Option.some.inj M).symm⟩
  .rw [List.getElem?_append,List.length_set]at M
   rw[List.getElem?_append];by_cases K:i<hp.length
   .rw [if_pos K,List.getElem?_set_ne (λh=>e h.symm)]at M
    rw[if_pos K];exact .inr M
   .rw [if_neg K]at M
    rw[if_neg K];exact .inr M
 have xi:(hp++[Ow.row T R []])[id]? = some (.var t u):=by rw[List.getElem?_append_left xa];exact p
 have xh:(hp.set id (.var t (u.set k (.own hp.length)))++[Ow.row T R []]).length=(hp++[Ow.row T R []]).length:=by simp
 have xf:∀i o b,(hp.set id (.var t (u.set k (.own hp.length)))++[Ow.row T R []])[i]? = some o->∀v,OwB s v o b->∃l,(hp++[Ow.row T R []])[i]? = some l/\OwB s v l b:=λi o b M v F=>by
  rcases xc i o M with⟨rfl,rfl⟩ | B
  .exact ⟨_,xi,F⟩
  .exact ⟨o,B,F⟩
 refine⟨s,λi=>if i=hp.length then .slice none 0 0 else W i,Y,xd.le,xd.ok,λA U J=>?_,xd.sz,xd.df,λi o M=>?_,λi j o l xb M O b F r=>?_,λi o b M F=>?_⟩
 .rw [xh]
  exact xd.fr A U J
 .rw [xh]
  rcases xc i o M with⟨rfl,rfl⟩ | B
  .obtain ⟨b,N,q1,z,q3,q4,q5,q6,q7⟩:=xd.hp _ _ xi
   refine⟨b,N,q1,z,q3,by simpa using q4,q5,q6,λj U O=>?_⟩;by_cases e:j=k
   .subst e
    rw[List.getElem?_set_self E]at O;cases O;obtain⟨G,p1,p2,p3⟩:=q7 j _ I;refine⟨G,p1,p2,by rw[q];exact Nat.lt_succ_self _,?_⟩;have p3:G=.slice none 0 0:=p3;rw[p3];simp
   .rw [List.getElem?_set_ne (λh=>e h.symm)]at O
    exact q7 j U O
  .exact xd.hp i o B
 .obtain ⟨x,B,C⟩:=xf i o b M _ F
  obtain⟨y,L,V⟩:=xf j l b O _ r;exact xd.sep i j x y xb B L b C V
 .obtain ⟨x,B,C⟩:=xf i o b M _ F
  exact xd.own i x b B C
end
def Ji(P:List Tm):Int:=P.foldl (λd t=>max d (DC t.m 8)) (-1)
variable{vi:List Tm}{n:Nat}
theorem RW(h:n<vi.length):Ji (vi.take (n+1))=max (Ji (vi.take n)) (DC (BJ vi n).m 8):=RP (λd t=>max d (DC t.m 8)) (-1) h
theorem VK(P:List Tm)(R:PIn P 0 65535)(i:P.length<=1000000):Abs Tryz.prog 241 [BQ P] (ex (.int .i64 (Ji P))):=by
 refine Ab Tryz.func241 λB=>?_;rw[Tryz.ntmps241];refine Go ?_;refine Az (λA d=>∃k,k<=P.length/\A=P.length-k/\d=⟨[(3,.d (ex (.int .i64 (Ji (P.take k))))),(6,.d (BQ P)),(7,.d (ex (.int .i64 (P.length:Nat)))),(8,.d (ex (.int .i64 (k:Nat))))],[]⟩) ?le ⟨0,by omega,rfl,rfl⟩ ?round
 case le=>exact ZiJ
 case round=>
  rintro A _ ⟨k,C,rfl,rfl⟩;by_cases Q:k<P.length
  .have y:=R _ (CV Q)
   have x:=RW Q;have O:=UI (BJ P k).m (y.mono ZbK ZbK);refine Zfv ?_;exact Ad (by exact FrLe.cons rfl (AVle.int x.symm)<|Yd<|Yd<|Yd<|FrLe.nil) Zch
  .exact ZaJ
theorem Tt(a:Nat->Int)(h:In8 a (-1000000) 1000000):Abs Tryz.prog 153 [AJ (Co a)] (ex (.int .i64 (DC a 8))):=by
 refine Ab Tryz.func153 λA=>?_;rw[Tryz.ntmps153];refine Go ?_;refine Az (λP d=>∃k,k<=8/\P=8-k/\d=⟨[(1,.ptr 0 0),(3,.d (ex (.int .i64 (DC a k)))),(4,.d (ex (.int .i64 (k:Nat))))],[.var 112 ((Co a).map .d)]⟩) ?le ⟨0,by omega,rfl,rfl⟩ ?round
 case le=>exact Ad Zcm Zdm
 case round=>
  rintro P _ ⟨k,C,rfl,rfl⟩;by_cases Q:k<8
  .have j:=h k Q
   have F:=Jo h k ZbK;refine Go ?_;exact Zhi
  .obtain rfl:k=8:=by omega
   exact Zfi
theorem A2y(P:List Tm)(R:PIn P 0 65535)(i:P.length<=1000000):Abs Tryz.prog 78 [BQ P] (ex (.int .i64 (Ji P))):=by
 refine Ab Tryz.func78 λB=>?_;rw[Tryz.ntmps78];refine Go ?_;refine Az (λA d=>∃k,k<=P.length/\A=P.length-k/\d=⟨[(0,.d (BQ P)),(3,.d (ex (.int .i64 (Ji (P.take k))))),(4,.d (ex (.int .i64 (k:Nat))))],[]⟩) ?le ⟨0,by omega,rfl,rfl⟩ ?round
 case le=>exact Ad ZcC Zch
 case round=>
  rintro A _ ⟨k,C,rfl,rfl⟩;by_cases Q:k<P.length
  .have y:=R _ (CV Q)
   have x:=RW Q;have E:=Tt (BJ P k).m (y.mono ZbK ZbK);refine Zfv ?_;exact Ad (by exact Yd<|FrLe.cons rfl (AVle.int x.symm)<|Yd<|FrLe.nil) Zch
  .exact ZaJ
end Go.Proofs.YtcikkglcoeedlaaGreat
