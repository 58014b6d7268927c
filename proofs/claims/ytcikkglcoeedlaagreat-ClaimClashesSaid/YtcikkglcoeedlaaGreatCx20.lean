/- Part 20 of the proof of claimClashes_holds. No condition. -/
import Derived.Test.YtcikkglcoeedlaaGreatCx19
set_option linter.unusedSimpArgs false
set_option linter.unusedVariables false
set_option maxRecDepth 100000
set_option maxHeartbeats 1000000
namespace Go.Proofs.YtcikkglcoeedlaaGreat
variable{vc:AS}{g:AV}{vt:AV->List Ow->Prop}{p ul:Bool}{vn ua:Code}{r vu ux:D}{vl:Exit->AS->Prop}{vK:Func}{a J:Int}{vd uw:List (Nat×AV)}{o:List AV}{c:List D}{l f:List Nat}{H:List Ow}{vj uf:List Tm}{ub:List Value}{n b T m:Nat}{ve vx:Nat->Int}{ug:Op}{x y vX:Operand}{P:Program}{vV uT:Rat}{j uD:Type}{um:j->Prop}
section
open Go.RowKit
theorem Rj(x y:Nat):EQ x y=((x:Int)-y).sign:=by
 unfold EQ;rcases Nat.lt_trichotomy x y with h | h | h
 .rw [if_pos h,Int.sign_eq_neg_one_of_neg Zbx]
 .subst h;simp
 .rw [if_neg Zbx,if_pos h,Int.sign_eq_one_of_pos Zbx]
theorem A0Z(x y:Int):Abs Tryz.prog 233 [AL (Ci x),AL (Ci y)] (ex (.int .i64 (x-y).sign)):=by
 have C:x.sign=-1/\x<0\/x.sign=0/\x=0\/x.sign=1/\0<x:=by
  rcases Int.lt_trichotomy x 0 with h | h | h
  .exact ZhB
  .exact ZhC
  .exact ZhD
 have N:y.sign=-1/\y<0\/y.sign=0/\y=0\/y.sign=1/\0<y:=by
  rcases Int.lt_trichotomy y 0 with h | h | h
  .exact ZhB
  .exact ZhC
  .exact ZhD
 rcases(show x.sign<y.sign\/y.sign<x.sign\/(x.sign=y.sign/\x.sign<0)\/(x.sign=y.sign/\0<=x.sign)by omega)with h | h | h | h
 .refine Ab Tryz.func233 λA=>?_
  rw[Tryz.ntmps233];refine Go ?_;refine Dy 4 ?_;have O:=ED x;have z:=ED y;refine ZeO ?_;exact Aq (Ak (ResV.tmp rfl rfl) (Af (by rw[Int.sign_eq_neg_one_of_neg (show x-y<0 by omega)])))
 .refine Ab Tryz.func233 λA=>?_
  rw[Tryz.ntmps233];refine Go ?_;refine Dy 4 ?_;have J:=ED x;have d:=ED y;refine ZeO ?_;exact Aq (Ak (ResV.tmp rfl rfl) (Af (by rw[Int.sign_eq_one_of_pos (show 0<x-y by omega)])))
 .refine Ab Tryz.func233 λA=>?_
  rw[Tryz.ntmps233];refine Go ?_;refine Dy 4 ?_;have L:=ED x;have M:=ED y;refine CY ?_;have u:=Nd y.natAbs x.natAbs;exact Zgf
 .refine Ab Tryz.func233 λA=>?_
  rw[Tryz.ntmps233];refine Go ?_;refine Dy 4 ?_;have r:=ED x;have s:=ED y;refine CY ?_;have R:=Nd x.natAbs y.natAbs;exact Zgf
theorem MQ(x y:Int)(C:(Ao x.natAbs).length<=1000000000)(N:(Ao y.natAbs).length<=1000000000):Abs Tryz.prog 234 [slD 109 2 [Ci x,Ci y]] (AL (Ci (x*y))):=by
 have h:=If x;have b:=If y;have p:=If 1;rw[decide_eq_true rfl]at p;refine Ab Tryz.func234 λB=>?_;rw[Tryz.ntmps234];have S:=Si 1 Zbx Zbx;refine Go ?_;refine AE (λE f=>∃(r:Int) (k:Nat),(E=2/\r=1/\k=0\/E=1/\r=x/\k=1\/E=0/\r=x*y/\k=2)/\f=⟨[(2,.ptr 0 0),(3,.ptr 1 0),(7,.d (slD 109 2 [Ci x,Ci y])),(8,.d (ex (.int .i64 2))),(9,.d (ex (.int .i64 (k:Nat))))],[.var 109 ([ex (.bool false),ex (.slice none 0 0)].map .d),.var 109 ((Ci r).map .d)]⟩) ?le ⟨1,0,.inl ⟨rfl,rfl,rfl⟩,rfl⟩ ?round
 case le=>exact Ac ZbT Zcn
 case round=>
  rintro E _ ⟨r,k,⟨rfl,rfl,rfl⟩ | ⟨rfl,rfl,rfl⟩ | ⟨rfl,rfl,rfl⟩,rfl⟩
  .by_cases u:x=1
   .rw [decide_eq_true u]at h
    refine Go ?_;refine Am 1 Zbx ⟨x,1,.inr (.inl ⟨rfl,rfl,rfl⟩),rfl⟩ ?_;exact Ac ZbT (by apply Yv;(refine HpLe.cons (OwLe.varD (by rw[u]<;>rfl)) ?_);exact HpLe.nil)
   .rw [decide_eq_false u]at h
    refine Go ?_;refine Am 1 Zbx ⟨x,1,.inr (.inl ⟨rfl,rfl,rfl⟩),rfl⟩ ?_;exact Ac ZbT Zcn
  .by_cases A:y=1
   .rw [decide_eq_true A]at b
    refine Zfz ?_;exact Ac ZbT (by apply Yv;(refine HpLe.cons (OwLe.varD (by rw[A,Int.mul_one]<;>rfl)) ?_);exact HpLe.nil)
   .rw [decide_eq_false A]at b
    by_cases u:r=1
    .rw [decide_eq_true u]at h
     refine Zfz ?_;exact Ac ZbT (by apply Yv;(refine HpLe.cons (OwLe.varD (by rw[u,Int.one_mul]<;>rfl)) ?_);exact HpLe.nil)
    .rw [decide_eq_false u]at h
     have V:=Sn r y Zbx Zbx;refine Zfz ?_;exact Ac ZbT Zcn
  .refine Go ?_
   exact Zhz
def La(p q:Rat):Int:=(p.num*(q.den:Int)-q.num*(p.den:Int)).sign
theorem Ov(p q:Rat)(F:RSz p 1000000000)(z:RSz q 1000000000):Abs Tryz.prog 136 [AL (Fx p),AL (Fx q)] (ex (.int .i64 (La p q))):=by
 have W:=p.den_pos;have X:=q.den_pos
 have C:p.num.sign=-1/\p.num<0\/p.num.sign=0/\p.num=0\/p.num.sign=1/\0<p.num:=by
  rcases Int.lt_trichotomy p.num 0 with h | h | h
  .exact ZhB
  .exact ZhC
  .exact ZhD
 have N:q.num.sign=-1/\q.num<0\/q.num.sign=0/\q.num=0\/q.num.sign=1/\0<q.num:=by
  rcases Int.lt_trichotomy q.num 0 with h | h | h
  .exact ZhB
  .exact ZhC
  .exact ZhD
 rcases(show p.num.sign<q.num.sign\/q.num.sign<p.num.sign\/p.num.sign=q.num.sign by omega)with h | h | h
 .have Y:La p q=-1:=by
   refine Int.sign_eq_neg_one_of_neg ?_;rcases(show(p.num<0/\0<=q.num)\/(p.num<=0/\0<q.num)by omega)with⟨u,A⟩ | ⟨u,A⟩
   .have I:p.num*(q.den:Int)<0:=Int.mul_neg_of_neg_of_pos u Zbx
    have V:0<=q.num*(p.den:Int):=Int.mul_nonneg A Zbx;omega
   .have I:p.num*(q.den:Int)<=0:=Int.mul_nonpos_of_nonpos_of_nonneg u Zbx
    have V:0<q.num*(p.den:Int):=Int.mul_pos A Zbx;omega
  rw[Y];refine Ab Tryz.func136 λB=>?_;rw[Tryz.ntmps136];refine Go ?_;refine Dy 4 ?_;have E:=Eh p;have k:=Eh q;refine CY ?_;refine Go ?_;exact Yf
 .have Y:La p q=1:=by
   refine Int.sign_eq_one_of_pos ?_;rcases(show(q.num<0/\0<=p.num)\/(q.num<=0/\0<p.num)by omega)with⟨u,A⟩ | ⟨u,A⟩
   .have I:q.num*(p.den:Int)<0:=Int.mul_neg_of_neg_of_pos u Zbx
    have V:0<=p.num*(q.den:Int):=Int.mul_nonneg A Zbx;omega
   .have I:q.num*(p.den:Int)<=0:=Int.mul_nonpos_of_nonpos_of_nonneg u Zbx
    have V:0<p.num*(q.den:Int):=Int.mul_pos A Zbx;omega
  rw[Y];refine Ab Tryz.func136 λB=>?_;rw[Tryz.ntmps136];refine Go ?_;refine Dy 4 ?_;have O:=Eh p;have G:=Eh q;refine CY ?_;refine Go ?_;exact Yf
 .refine Ab Tryz.func136 λB=>?_
  rw[Tryz.ntmps136];refine Go ?_;refine Dy 4 ?_;have J:=Eh p;have d:=Eh q;refine ZeO ?_;refine Dy 13 ?_;have L:=MQ p.num q.den F.1 z.2;have M:=MQ q.num p.den z.1 F.2;have K:=A0Z (p.num*q.den) (q.num*p.den);exact ZfC
structure RTm where
 b:Bool
 l:List Nat
 b':Bool
 l':List Nat
 m:Nat->Int
instance:Inhabited RTm:=⟨⟨false,[],false,[],λ_=>0⟩⟩
def rtC(r:RTm):List D:=A2u r.b r.l r.b' r.l'++Cr r.m
def IU(L:List RTm):D:=slD 114 12 (L.map rtC)
def Ek(L:List RTm)(k:Nat):RTm:=L.getD k default
def tOk(r:RTm):Prop:=QOk r.b r.l r.b' r.l'/\r.l≠[]/\In8 r.m 0 65535
def Gs(L:List RTm):Prop:=∀k,k<L.length->tOk (Ek L k)/\(0<k->0<IE (Ek L (k-1)).m (Ek L k).m)
def A5z(L:List RTm):Prop:=∀r∈L,Bt r.l/\Bt r.l'/\r.l.length<=1000000000/\r.l'.length<=1000000000
theorem A0q{L:List RTm}(h:n<L.length):Ek L n∈L:=by
 unfold Ek;exact ZeS
open Classical in
theorem WO(L:List RTm)(A:A5z L)(u:L.length<=1000000):Abs Tryz.prog 244 [IU L] (ex (.bool (decide (Gs L)))):=by
 refine Ab Tryz.func244 λC=>?_;rw[Tryz.ntmps244];refine Go ?_;refine AE (λE f=>∃k,k<=L.length/\E=L.length-k/\(∀j,j<k->tOk (Ek L j)/\(0<j->0<IE (Ek L (j-1)).m (Ek L j).m))/\f=⟨[(0,.d (IU L)),(5,.d (IU L)),(6,.d (ex (.int .i64 (L.length:Nat)))),(7,.d (ex (.int .i64 (k:Nat))))],[]⟩) ?le ⟨0,by omega,rfl,λj i=>absurd i (Nat.not_lt_zero j),rfl⟩ ?round
 case le=>exact ZhA
 case round=>
  rintro E _ ⟨k,B,rfl,N,rfl⟩;by_cases Q:k<L.length
  .obtain ⟨Y,X,v,w⟩:=A _ (A0q Q)
   have F:=Vz (Ek L k).b (Ek L k).l (Ek L k).b' (Ek L k).l' Y X v w;by_cases z:QOk (Ek L k).b (Ek L k).l (Ek L k).b' (Ek L k).l'
   .rw [decide_eq_true z]at F
    obtain⟨q,R,K,M,O⟩:=id z;have I:=Eh q;have S:Fx q=A2u (Ek L k).b (Ek L k).l (Ek L k).b' (Ek L k).l':=by rw[R,K,M,O];rfl
    rw[S]at I;by_cases V:q=0
    .have b:=FF.2 V
     have P:¬Gs L:=λh=>(h k Q).1.2.1 (by rw[K,V];exact Br);rw[decide_eq_false P];exact ZeE
    .have b:q.num.sign≠0:=λe=>V (FF.1 e)
     by_cases s:In8 (Ek L k).m 0 65535
     .have W:tOk (Ek L k):=⟨z, λe=>by rw [K] at e; have:=Bi.1 (by rw [e]; rfl); exact Xv V Zbx, s⟩
      rcases Nat.eq_zero_or_pos k with g | g
      .subst g
       have d:=Jk (Ek L 0).m s;refine Go ?_;refine Dy 14 ?_;refine ZeO ?_;refine Am (L.length-1) Zbx ⟨1,by omega,rfl,λj i=>by obtain rfl:j=0:=Zbx;exact⟨W,λh=>absurd h (Nat.lt_irrefl _)⟩,rfl⟩ ?_;exact ZhA
      .by_cases G:0<IE (Ek L (k-1)).m (Ek L k).m
       .have Z:=Jk (Ek L k).m s;refine Go ?_
        refine Dy 14 ?_;have a:=OP (Ek L (k-1)).m (Ek L k).m;refine ZeO ?_;refine Am (L.length-(k+1)) Zbx ⟨k+1,by omega,rfl,λj i=>?_,rfl⟩ ?_
        .rcases Nat.lt_succ_iff_lt_or_eq.1 i with h | rfl
         .exact N j h
         .exact ⟨W,λ_=>G⟩
        .exact ZhA
       .have P:¬Gs L:=λh=>G ((h k Q).2 g)
        rw[decide_eq_false P];have c:=Jk (Ek L k).m s;refine Go ?_;refine Dy 14 ?_;have r:=OP (Ek L (k-1)).m (Ek L k).m;exact ZfC
     .have P:¬Gs L:=λh=>s (h k Q).1.2.2
      rw[decide_eq_false P];have l:=TS (Ek L k).m s;exact ZeE
   .rw [decide_eq_false z]at F
    have P:¬Gs L:=λh=>z (h k Q).1.1;rw[decide_eq_false P];exact ZeE
  .obtain rfl:k=L.length:=by omega
   have m:Gs L:=N;rw[decide_eq_true m];exact ZeE
theorem SG(a:Nat->Int)(h:In8 a 0 65535):Abs Tryz.prog 249 [AL (Cr a)] (ex (.bool true)):=by
 refine Ab Tryz.func249 λA=>?_;rw[Tryz.ntmps249];refine Go ?_;refine AE (λu f=>∃k,k<=8/\u=8-k/\f=⟨[(1,.ptr 0 0),(2,.d (ex (.bool false))),(3,.d (ex (.int .i64 (k:Nat))))],[.var 112 ((Cr a).map .d)]⟩) ?le ⟨0,by omega,rfl,rfl⟩ ?round
 case le=>exact Ac Zca Zdn
 case round=>
  rintro u _ ⟨k,B,rfl,rfl⟩;by_cases Q:k<8
  .have r:=h k Q
   refine Go ?_;refine Am (8-(k+1)) Zbx ⟨k+1,by omega,rfl,rfl⟩ ?_;exact Ac Zca Zdn
  .obtain rfl:k=8:=by omega
   exact ZeE
def Em(t:Tm):RTm:=⟨decide (t.c.num<0),Ao t.c.num.natAbs,decide ((t.c.den:Int)<0),Ao (t.c.den:Int).natAbs,t.m⟩
theorem JI(P:List Tm):Cd P=IU (P.map Em):=by
 unfold Cd IU;rw[List.map_map];rfl
theorem RU(h:n<vj.length):Ek (vj.map Em) n=Em (Cm vj n):=by
 unfold Ek Cm;rw[List.getD_eq_getElem?_getD,List.getElem?_map,List.getElem?_eq_getElem h];simp[List.getD_eq_getElem?_getD,List.getElem?_eq_getElem h]
theorem A4g(t:Tm):QOk (Em t).b (Em t).l (Em t).b' (Em t).l':=⟨t.c,rfl,rfl,rfl,rfl⟩
theorem A4C(h:∀k,k<vj.length->0<k->0<lx (Cm vj (k-1)).m (Cm vj k).m):Dec vj:=by
 unfold Dec;rw[List.pairwise_iff_getElem]
 have key:∀d i,i+d+1<vj.length->0<lx (Cm vj i).m (Cm vj (i+d+1)).m:=by
  intro d
  induction d with
  |zero=>intro i K;have:=h (i+1) K Zbx;exact Zhq
  |succ d n=>
   intro i K;have u:=n i Zbx;have A:=h (i+(d+1)+1) K Zbx;rw[show i+(d+1)+1-1=i+d+1 by omega]at A;exact OQ u A
 intro i j K C o;have u:=key (j-i-1) i Zbx;rw[show i+(j-i-1)+1=j by omega]at u;have e:∀k (B:k<vj.length),Cm vj k=vj[k]:=λk B=>ZhE
 rwa [e i K,e j C]at u
theorem A4D(h:Dec vj)(B:n<vj.length)(g:0<n):0<lx (Cm vj (n-1)).m (Cm vj n).m:=by
 unfold Dec at h;rw[List.pairwise_iff_getElem]at h;have e:∀n (B:n<vj.length),Cm vj n=vj[n]:=λn B=>ZhE
 rw[e _ B,e (n-1) Zbx];exact h (n-1) n Zbx B Zbx
theorem A0a(h:Canon vj)(K:PIn vj 0 65535):Gs (vj.map Em):=λk B=>by
 rw[List.length_map]at B;rw[RU B];refine⟨⟨A4g _,λe=>?_,K _ (DM B)⟩,λg=>?_⟩
 .have u:=h.2 _ (DM B)
  have A:Ao (Cm vj k).c.num.natAbs=[]:=e;have:=Bi.1 (show(Ao (Cm vj k).c.num.natAbs).length=0 by rw[A];rfl);exact Xv u Zbx
 .rw [RU Zbx]
  show 0<IE (Cm vj (k-1)).m (Cm vj k).m;rw[<-OR];exact A4D h.1 B g
theorem A1x(i:Nat)(K:i<8):Abs Tryz.prog 94 [ex (.int .i64 (i:Nat))] (EX [Cd [⟨1,Ht i⟩],ex (.int .i64 0)]):=by
 refine Ab Tryz.func94 λA=>?_;rw[Tryz.ntmps94];refine Y1<|Wa<|Wa<|Y0<|Aj<|Y1<|Wm ?_;refine Wq AR ?_;refine Wm ?_;refine Wg CS ?_;refine Wg AR ?_;refine Wq CE ?_;refine Y0<|Cf<|Ys<|Y1 ?_;(refine CA rfl rfl ?_;(refine ME (Aa rfl) (Aa rfl) rfl rfl ?_;(repeat ((first | refine⟨_,As (ao rfl),?_⟩ | refine⟨_,Po rfl,?_⟩);refine⟨_,rfl,?_⟩));refine⟨_,rfl,?_⟩));refine Al ?_;refine Sf ?_;refine Y0<|Y1<|Wm ?_;refine Wq PJ ?_
 refine A25 0 (Cr λ_=>0) rfl rfl rfl ?_;refine Go ?_;refine Dy 4 ?_;have O:=FY 1 Zbx Zbx;refine ZeO ?_;exact Aq (Rets.of2 (ResV.tmp rfl rfl) (ResV.tmp rfl rfl) (BU (D.le.refl _) (D.le.refl _)))
def VG(a b:Nat->Int)(k:Nat):Nat->Int:=λj=>if j<k then a j+b j else a j
theorem A0O(a b:Nat->Int)(k:Nat):On (VG a b k) k (a k+b k)=VG a b (k+1):=by
 funext j;simp only[On,VG];rcases Nat.lt_trichotomy j k with h | h | h
 .rw [if_neg Zbx,if_pos h,if_pos Zbx]
 .subst h;simp
 .rw [if_neg Zbx,if_neg Zbx,if_neg Zbx]
theorem A2K(a b:Nat->Int)(k:Nat):VG a b k k=a k:=if_neg (Nat.lt_irrefl k)
theorem ZB(a b:Nat->Int)(t:In8 a 0 65535)(E:In8 b 0 65535)(h:In8 (Cs a b) 0 65535):Abs Tryz.prog 181 [AL (Cr a),AL (Cr b)] (EX [AL (Cr (Cs a b)),ex (.int .i64 0)]):=by
 refine Ab Tryz.func181 λC=>?_;rw[Tryz.ntmps181];refine Go ?_;refine AE (λF f=>∃k,k<=8/\F=8-k/\f=⟨[(2,.ptr 0 0),(3,.ptr 1 0),(4,.ptr 2 0),(6,.d (ex (.int .i64 (k:Nat))))],[.var 112 ((Cr (VG a b k)).map .d),.var 112 ((Cr b).map .d),.var 112 ((Cr λ_=>0).map .d)]⟩) ?le ⟨0,by omega,rfl,rfl⟩ ?round
 case le=>exact Ac Zcx (by exact Yv<|Yv<|Yv<|HpLe.nil)
 case round=>
  rintro F _ ⟨k,B,rfl,rfl⟩;by_cases Q:k<8
  .have u:=A2K a b k
   have A:=t k Q;have I:=E k Q;refine Go ?_;refine Dy 8 ?_;refine ZeO ?_;refine Am (8-(k+1)) Zbx ⟨k+1,by omega,rfl,rfl⟩ ?_;exact Ac Zcx (by exact HpLe.cons (OwLe.varD (by rw[u,A0O]))<|Yv<|Yv<|HpLe.nil)
  .obtain rfl:k=8:=by omega
   refine Aj<|Y1<|Wm ?_;refine Wq AR ?_;refine Y0<|Cf<|Cl<|BF<|Ca<|BJ<|Yn<|Aj<|Y1 ?_;refine Wq Bg ?_;refine Wq (BC (SG (VG a b 8) λi K=>by have:=h i K;rw[VG,if_pos K];exact this)) ?_;refine Wq Jy ?_;refine Y0<|Cf<|Ys<|Y1 ?_;refine Wq Bg ?_;refine Sf ?_;refine Wa<|Y0<|BG ?_
   exact ZhF
theorem A4j{s t:Tm}(h:lx s.m t.m=1):HL (s::vj) (t::uf)=s::HL vj (t::uf):=by
 rw[HL,if_pos (show 0<lx s.m t.m by omega)]
theorem A4i{s t:Tm}(h:lx s.m t.m=-1):HL (s::vj) (t::uf)=t::HL (s::vj) uf:=by
 rw[HL,if_neg (show¬0<lx s.m t.m by omega),if_pos (show lx s.m t.m<0 by omega)]
theorem A0N{s t:Tm}(h:lx s.m t.m=0):HL (s::vj) (t::uf)=if s.c+t.c=0 then HL vj uf else⟨s.c+t.c,s.m⟩::HL vj uf:=by
 rw[HL,if_neg (show¬0<lx s.m t.m by omega),if_neg (show¬lx s.m t.m<0 by omega)]
theorem Sk(Q:List Tm):HL [] Q=Q:=by rw[HL]
theorem A1A(P Q:List Tm)(N M:Nat)(X:PSz P N)(Y:PSz Q M)(W:N+M+1<=4398046511103)(h:P.length+Q.length<=100000):Abs Tryz.prog 223 [Cd P,Cd Q] (Cd (HL P Q)):=by
 refine Ab Tryz.func223 λC=>?_;rw[Tryz.ntmps223];refine Go ?_;refine AE (λE f=>∃(i k:Nat) (R:List Tm),i<=P.length/\k<=Q.length/\R++HL (P.drop i) (Q.drop k)=HL P Q/\R.length<=i+k/\E=(P.length-i)+(Q.length-k)/\f=⟨[(0,.d (Cd P)),(1,.d (Cd Q)),(5,.own 0),(6,.d (ex (.int .i64 (i:Nat)))),(7,.d (ex (.int .i64 (k:Nat))))],[.row 114 12 (R.map Nz)]⟩) ?le ⟨0,0,[],by omega,by omega,rfl,by simp,rfl,rfl⟩ ?round
 case le=>exact Ac ZbY Zdm
 case round=>
  rintro E _ ⟨i,k,R,K,B,heq,L,rfl,rfl⟩;by_cases n:i<P.length
  .have m:=GZ n
   by_cases l:k<Q.length
   .have Z:=GZ l
    rw[m,Z]at heq;have b:=X _ (DM n);have u:=Y _ (DM l);rcases A0S (Cm P i).m (Cm Q k).m with G | G | G
    .have j:IE (Cm P i).m (Cm Q k).m = -1:=by rw [<-OR];exact G
     refine Go ?_;refine Dy 24 ?_;have O:=FK (Cm P i).m (Cm Q k).m;refine CY ?_;refine Go ?_;refine Dy 18 ?_;have I:=FK (Cm P i).m (Cm Q k).m;refine CY ?_;refine Y0<|Ct<|Y1<|Wm<|Wm<|Wm ?_;refine Wq EK ?_;refine Wq BO ?_;refine Wq (CF (ao rfl) (Aa rfl) (Aa rfl) rfl rfl rfl rfl rfl) ?_;(refine Ap ?_);refine Wa<|Y0<|Y1<|Wm ?_;refine Wq Eb ?_;refine Wa<|Y0<|Cl<|BF<|BJ ?_
     refine Am ((P.length-i)+(Q.length-(k+1))) Zbx ⟨i,k+1,R++[Cm Q k],by omega,by omega,?_,by simp;omega,rfl,rfl⟩ ?_
     .rw [A4i G]at heq
      rw[<-heq,m];simp
     .exact Ac ZbY ZdA
    .have j:IE (Cm P i).m (Cm Q k).m=0:=by rw [<-OR];exact G
     by_cases A:(Cm P i).c+(Cm Q k).c=0
     .have t:=FF.2 A
      refine Go ?_;refine Dy 24 ?_;have S:=FK (Cm P i).m (Cm Q k).m;refine ZeO ?_;refine Dy 18 ?_;have V:=FK (Cm P i).m (Cm Q k).m;refine ZeO ?_;refine Dy 12 ?_;have J:=Mh (Cm P i).c (Cm Q k).c N M b u W;refine CY ?_;have d:=IC ((Cm P i).c+(Cm Q k).c);refine Go ?_;refine Am ((P.length-(i+1))+(Q.length-(k+1))) Zbx ⟨i+1,k+1,R,by omega,by omega,?_,by omega,rfl,rfl⟩ ?_
      .rw [A0N G,if_pos A]at heq
       exact heq
      .exact Ac ZbY Zdm
     .have t:((Cm P i).c+(Cm Q k).c).num.sign≠0:=λe=>A (FF.1 e)
      refine Go ?_;refine Dy 24 ?_;have a:=FK (Cm P i).m (Cm Q k).m;refine ZeO ?_;refine Dy 18 ?_;have c:=FK (Cm P i).m (Cm Q k).m;refine ZeO ?_;refine Dy 12 ?_;have g:=Mh (Cm P i).c (Cm Q k).c N M b u W;refine CY ?_;have r:=IC ((Cm P i).c+(Cm Q k).c);refine Go ?_;refine Dy 9 ?_;refine CY ?_
      (refine Ap ?_);refine Go ?_;refine Am ((P.length-(i+1))+(Q.length-(k+1))) Zbx ⟨i+1,k+1,R++[⟨(Cm P i).c+(Cm Q k).c,(Cm P i).m⟩],by omega,by omega,?_,by simp;omega,rfl,rfl⟩ ?_
      .rw [A0N G,if_neg A]at heq
       rw[<-heq];simp
      .exact Ac ZbY (by refine HpLe.cons (OwLe.row (GV Nz R ⟨(Cm P i).c+(Cm Q k).c,(Cm P i).m⟩)) ?_;exact HpLe.nil)
    .have j:IE (Cm P i).m (Cm Q k).m=1:=by rw [<-OR];exact G
     refine Go ?_;refine Dy 24 ?_;have s:=FK (Cm P i).m (Cm Q k).m;refine CY ?_;refine Y0<|Ct<|Y1<|Wm<|Wm<|Wm ?_;refine Wq EK ?_;refine Wq BO ?_;refine Wq (CF (ao rfl) (Aa rfl) (Aa rfl) rfl rfl rfl rfl rfl) ?_;(refine Ap ?_);refine Wa<|Y0<|Y1<|Wm ?_;refine Wq Eb ?_;refine Wa<|Y0<|Cl<|BF<|BJ ?_
     refine Am ((P.length-(i+1))+(Q.length-k)) Zbx ⟨i+1,k,R++[Cm P i],by omega,by omega,?_,by simp;omega,rfl,rfl⟩ ?_
     .rw [A4j G]at heq
      rw[<-heq,Z];simp
     .exact Ac ZbY Zdz
   .refine Go ?_
    refine Dy 24 ?_;refine CY ?_;refine Y0<|Ct<|Y1<|Wm<|Wm<|Wm ?_;refine Wq EK ?_;refine Wq BO ?_;refine Wq (CF (ao rfl) (Aa rfl) (Aa rfl) rfl rfl rfl rfl rfl) ?_;(refine Ap ?_);refine Wa<|Y0<|Y1<|Wm ?_;refine Wq Eb ?_;refine Wa<|Y0<|Cl<|BF<|BJ ?_
    refine Am ((P.length-(i+1))+(Q.length-k)) Zbx ⟨i+1,k,R++[Cm P i],by omega,by omega,?_,by simp;omega,rfl,rfl⟩ ?_
    .have z:Q.drop k=[]:=List.drop_eq_nil_of_le Zbx
     rw[m,z,XI]at heq;rw[<-heq,z,XI];simp
    .exact Ac ZbY Zdz
  .have F:P.drop i=[]:=List.drop_eq_nil_of_le Zbx
   by_cases l:k<Q.length
   .have Z:=GZ l
    refine Go ?_;refine Dy 24 ?_;refine CY ?_;refine Go ?_;refine Dy 18 ?_;refine CY ?_;refine Y0<|Ct<|Y1<|Wm<|Wm<|Wm ?_;refine Wq EK ?_;refine Wq BO ?_;refine Wq (CF (ao rfl) (Aa rfl) (Aa rfl) rfl rfl rfl rfl rfl) ?_;(refine Ap ?_);refine Wa<|Y0<|Y1<|Wm ?_;refine Wq Eb ?_;refine Wa<|Y0<|Cl<|BF<|BJ ?_
    refine Am ((P.length-i)+(Q.length-(k+1))) Zbx ⟨i,k+1,R++[Cm Q k],by omega,by omega,?_,by simp;omega,rfl,rfl⟩ ?_
    .rw [Z,F,Sk]at heq
     rw[<-heq,F,Sk];simp
    .exact Ac ZbY ZdA
   .refine Go ?_
    have z:Q.drop k=[]:=List.drop_eq_nil_of_le Zbx;exact Aq (Ak (ResV.tmp rfl rfl) (Af (by rw[<-heq,F,z,Sk,List.append_nil];rfl)))
theorem UI(c:Rat)(m:Nat->Int)(P:List Tm)(G:c=0):Abs Tryz.prog 95 [AL (Fx c),AL (Cr m),Cd P] (EX [Cd [],ex (.int .i64 0)]):=by
 have b:=FF.2 G;refine Ab Tryz.func95 λA=>?_;rw[Tryz.ntmps95];have I:=IC c;refine Go ?_;exact Aq (Rets.of2 (ResV.tmp rfl rfl) (ResV.tmp rfl rfl) (BU (ZU) (D.le.refl _)))
theorem PI(c:Rat)(m:Nat->Int)(P:List Tm)(N M:Nat)(G:c≠0)(v:RSz c N)(s:In8 m 0 65535)(X:PSz P M)(K:PIn P 0 65535)(T:∀t∈P,In8 (Cs m t.m) 0 65535)(h:P.length<=100000)(F:N+M<=4398046511103):Abs Tryz.prog 95 [AL (Fx c),AL (Cr m),Cd P] (EX [Cd (Vc c m P),ex (.int .i64 0)]):=by
 have b:c.num.sign≠0:=λe=>G (FF.1 e);refine Ab Tryz.func95 λA=>?_;rw[Tryz.ntmps95];have E:=IC c;refine Go ?_;refine AE (λC f=>∃k,k<=P.length/\C=P.length-k/\f=⟨[(2,.d (Cd P)),(3,.ptr 0 0),(4,.ptr 1 0),(8,.own 2),(9,.d (ex (.int .i64 (k:Nat))))],[.var 111 ((Fx c).map .d),.var 112 ((Cr m).map .d),.row 114 12 ((Vc c m (P.take k)).map Nz)]⟩) ?le ⟨0,by omega,rfl,rfl⟩ ?round
 case le=>exact Ac ZdD (by exact Yv<|Yv<|Yr<|HpLe.nil)
 case round=>
  rintro C _ ⟨k,B,rfl,rfl⟩;by_cases Q:k<P.length
  .have u:=DM Q
   have I:=Oc Q;refine Go ?_;refine Yh (Ta (e:=9) Zbz (K4 (K4 (AddE.keep (AddE.keep (AddE.keep (AddE.add (AddE.keep AddE.nil))))))) Zbz) [[],[],[],[(24,1),(25,2)],[(26,3)],[(27,4)],[(23,0),(28,5)],[(29,6)],[(22,7)],[(22,7)],[]] [[],[],[],[1,2],[1,2,3],[1,2,3,4],[0,1,2,3,4,5],[0,1,2,3,4,5,6],[0,1,2,3,4,5,6,7],[0,1,2,3,4,5,6,7],[]] rfl Zbz Zbz Zbz ?_;have O:=ZB m (Cm P k).m s (K _ u) (T _ u);refine ZeO ?_;refine Dy 11 ?_;have z:=YV c (Cm P k).c N M v (X _ u) F;refine CY ?_
   (refine Ap ?_);refine ZeT ?_;exact Ac ZdD ZcN
  .exact ZaI
def YE(c:Rat)(P:List Tm):List Tm:=if c=0 then[]else Vc c (λ_=>0) P
theorem Wi(c:Rat)(P:List Tm)(N M:Nat)(v:RSz c N)(X:PSz P M)(f:PIn P 0 65535)(h:P.length<=100000)(k:N+M<=4398046511103):Abs Tryz.prog 224 [AL (Fx c),Cd P] (Cd (YE c P)):=by
 by_cases G:c=0
 .refine Ab Tryz.func224 λA=>?_
  rw[Tryz.ntmps224];have J:=UI c (λ_=>0) P G;refine Go ?_;exact Aq (Ak (ResV.tmp rfl rfl) (PW (by rw[YE,if_pos G])))
 .refine Ab Tryz.func224 λA=>?_
  rw[Tryz.ntmps224];have d:=PI c (λ_=>0) P N M G v In8.zero X f (λt u=>by rw[Qv];exact f t u) h k;refine Go ?_;exact Aq (Ak (ResV.tmp rfl rfl) (PW (by rw[YE,if_neg G])))
theorem Xl(G:RSz vV n)(X:PSz vj b):PSz (Vc vV ve vj) (n+b):=λt M=>by
 obtain⟨s,u,rfl⟩:=List.mem_map.1 M;exact G.mul (X s u)
theorem Ix{x:Int}(g:-1000<=x)(u:x<=1000):RSz ((x:Int):Rat) 1:=by
 refine⟨?_,?_⟩
 .show (Ao (x:Int).natAbs).length<=1
  exact Ie ZdB
 .show (Ao 1).length<=1
  exact Ie ZdB
theorem Canon.nil:Canon []:=⟨List.Pairwise.nil,λt h=>by cases h⟩
theorem LO{t:Tm}(h:t.c≠0):Canon [t]:=⟨List.pairwise_singleton _ _,λu M=>by rw[List.mem_singleton.1 M];exact h⟩
theorem Lc{N M:Nat}:∀{P Q:List Tm},PSz P N->PSz Q M->PSz (HL P Q) (N+M+1)
 |[],Q,_,h=>by simp only[HL];exact h.mono Zbx
 |s::P,[],h,_=>by simp only[HL];exact h.mono Zbx
 |s::P,t::Q,X,Y=>by
  have E:PSz P N:=λu C=>X u (by simp[C]);have K:PSz Q M:=λu C=>Y u (by simp[C])
  have I:∀{x:Tm} {L:List Tm},RSz x.c (N+M+1)->PSz L (N+M+1)->PSz (x::L) (N+M+1):=λA B u C=>by
   rcases List.mem_cons.1 C with rfl | C
   .exact A
   .exact B u C
  rw[HL];split
  .exact I ((X s ZbK).mono Zbx) (Lc E Y)
  .split
   .exact I ((Y t ZbK).mono Zbx) (Lc X K)
   .split
    .exact Lc E K
    .exact I ((X s ZbK).add (Y t ZbK)) (Lc E K)
termination_by P Q=>P.length+Q.length
theorem A2I(X:PIn vj a J)(Y:PIn uf a J):PIn (HL vj uf) a J:=λu M=>by
 rcases Hz vj uf u M with⟨s,b,e⟩ | ⟨s,b,e⟩
 .rw [<-e];exact X s b
 .rw [<-e];exact Y s b
structure PB(P:List Tm)(n N:Nat)(d:Int):Prop where
 can:Canon P
 len:P.length<=n
 sz:PSz P N
 ex:PIn P 0 d
theorem PB.mono{d v:Int}(h:PB vj n b d)(u:n<=T)(A:b<=m)(I:d<=v):PB vj T m v:=⟨h.can,Nat.le_trans h.len u,h.sz.mono A,h.ex.mono (Int.le_refl _) I⟩
theorem PB.nil{d:Int}:PB [] n b d:=⟨Canon.nil,Nat.zero_le _,λt h=>(by cases h),λt h=>(by cases h)⟩
theorem PB.add{P Q:List Tm}(h:PB P n b a)(k:PB Q T m J):PB (HL P Q) (n+T) (b+m+1) (max a J):=
 ⟨Ic h.can k.can,by have:=ID P Q;have:=h.len;have:=k.len;omega,Lc h.sz k.sz,A2I (h.ex.mono (Int.le_refl _) Zbx) (k.ex.mono (Int.le_refl _) Zbx)⟩
theorem A2X{f:Tm->Tm}(h:Dec vj)(p:∀s∈vj,∀t∈vj,0<lx s.m t.m->0<lx (f s).m (f t).m):Dec (vj.map f):=by
 refine List.pairwise_map.2 (List.Pairwise.imp_of_mem (λ{a b} u E Y=>p a u b E Y) h)
theorem Vy(t:vV≠0)(E:uT≠0):vV*uT≠0:=λe=>by
 rcases Rat.mul_eq_zero.1 e with h | h
 .exact t h
 .exact E h
theorem Yo(G:vV≠0)(h:Canon vj):Canon (Vc vV ve vj):=⟨A2X h.1 λs _ t _ h=>by
 show 0<lx (Cs ve s.m) (Cs ve t.m);rwa [Rq ve,Rq ve,A4l],λt M=>by
 obtain⟨s,b,rfl⟩:=List.mem_map.1 M;exact Vy G (h.2 s b)⟩
theorem A3e(t:In8 ve 0 a)(E:In8 vx 0 J):In8 (Cs ve vx) 0 (a+J):=λi K=>by
 have:=t i K;have:=E i K;simp only[Cs];omega
theorem A3Z{t:Tm}{d d0:Int}(h:PB vj n b d)(G:t.c≠0)(A:RSz t.c T)(B:In8 t.m 0 d0):PB (Vc t.c t.m vj) n (T+b) (d0+d):=
 ⟨Yo G h.can, by rw [Vn]; exact h.len, Xl A h.sz, fun u M => by
  obtain⟨s,A,rfl⟩:=List.mem_map.1 M;exact A3e B (h.ex s A)⟩
theorem ZQ{t:Tm}(h:t.c≠0)(b:RSz t.c n)(s:In8 t.m 0 a):PB [t] 1 n a:=⟨LO h,by simp,λu M=>by rw[List.mem_singleton.1 M];exact b,λu M=>by rw[List.mem_singleton.1 M];exact s⟩
theorem Abs.le{f:FuncId}{r r':D}(h:Abs P f c r)(Y:D.le r r'):Abs P f c r':=
 ⟨h.1,λs F u A I=>(h.2 s F u A I).mono λe O ⟨v,a,B,V,L,o⟩=>⟨v,a,B,V,L,Y _ _ o⟩⟩
theorem A1w(z:Int)(g:-128<=z)(u:z<=127):Abs Tryz.prog 222 [ex (.int .i8 z)] (ex (.int .i64 (z.natAbs:Nat))):=by
 by_cases A:z<0
 .refine Ab Tryz.func222 λB=>?_
  rw[Tryz.ntmps222]
  repeat (first | refine CA rfl rfl ?_;refine⟨_,FN (ao rfl) (Aa rfl) (Aa rfl) Zbx Zbx,?_⟩ | refine CA rfl rfl ?_;refine⟨_,PN (ao rfl) Zbx Zbx,?_⟩ | apply Aj | apply AWp.region | (refine CA rfl rfl ?_;first | (apply EW;refine⟨_,Bb (ao rfl),?_⟩) | (apply Fg;refine⟨_,Dh (ao rfl),?_⟩) | (apply Hl;refine⟨_,Fp rfl (ao rfl) (ao rfl) ZbF,?_⟩)) | apply AWl.nil | apply Yn | apply BG | apply Di | (apply IP;refine Ct ?_))
  exact ZhG
 .refine Ab Tryz.func222 λB=>?_
  rw[Tryz.ntmps222]
  repeat (first | refine CA rfl rfl ?_;refine⟨_,FN (ao rfl) (Aa rfl) (Aa rfl) Zbx Zbx,?_⟩ | apply Aj | apply AWp.region | (refine CA rfl rfl ?_;first | (apply EW;refine⟨_,Bb (ao rfl),?_⟩) | (apply Fg;refine⟨_,Dh (ao rfl),?_⟩) | (apply Hl;refine⟨_,GH rfl (ao rfl) (ao rfl) ZbF,?_⟩)) | apply AWl.nil | apply Yn | apply Gm | apply BG | (apply IP;refine Cf ?_))
  exact ZhG
def Vf(m:Int)(r:Nat->Int):Nat->Int
 |0=>m
 |j+1=>Vf m r j-((r (j+1)).natAbs:Nat)%(Vf m r j+1)
theorem VJ{m:Int}(r:Nat->Int)(h:0<=m):∀j,0<=Vf m r j/\Vf m r j<=m
 |0=>⟨h,Int.le_refl _⟩
 |j+1=>by
  have n:=VJ r h j;have u:=Int.emod_nonneg ((r (j+1)).natAbs:Int) (show Vf m r j+1≠0 by omega);have A:=Int.emod_lt_of_pos ((r (j+1)).natAbs:Int) (show 0<Vf m r j+1 by omega);simp only[Vf];omega
def Sx(m:Int)(r:Nat->Int)(n:Nat):Nat->Int:=λj=>if j<n then((r (j+1)).natAbs:Nat)%(Vf m r j+1)else 0
theorem XQ(r:Nat->Int)(h:0<=a)(n:Nat):In8 (Sx a r n) 0 a:=λj _=>by
 unfold Sx;have B:=VJ r h j;split
 .have u:=Int.emod_nonneg ((r (j+1)).natAbs:Int) (show Vf a r j+1≠0 by omega)
  have A:=Int.emod_lt_of_pos ((r (j+1)).natAbs:Int) (show 0<Vf a r j+1 by omega);omega
 .omega
theorem A17(m:Int)(r:Nat->Int)(k:Nat):On (Sx m r k) k (((r (k+1)).natAbs:Nat)%(Vf m r k+1))=Sx m r (k+1):=by
 funext j;simp only[On,Sx];rcases Nat.lt_trichotomy j k with h | h | h
 .rw [if_neg Zbx,if_pos h,if_pos Zbx]
 .subst h;simp
 .rw [if_neg Zbx,if_neg Zbx,if_neg Zbx]
def YL(m:Int)(n:Nat)(r:Nat->Int):List Tm:=YE ((Int.tmod (r 0) 4:Int):Rat) [⟨1,Sx m r n⟩]
def KD(m:Int)(n:Nat)(X:List (Nat->Int)):List Tm:=X.foldl (λa r=>HL a (YL m n r)) []
def XJ(X:List (Nat->Int))(n:Nat)(m:Int)(terms:Nat):List Tm:=KD m (min n 4) (X.take (min X.length terms))
theorem A3D(z:Int):-3<=Int.tmod z 4/\Int.tmod z 4<=3:=by
 rcases Int.le_total 0 z with h | h
 .rw [Int.tmod_eq_emod_of_nonneg h];omega
 .have:Int.tmod z 4=-((-z)%4):=by
   rw[<-Int.tmod_eq_emod_of_nonneg Zbx,Int.neg_tmod,Int.neg_neg]
  omega
theorem A2n(h:PB vj n b a)(u:RSz vV T):PB (YE vV vj) n (T+b) a:=by
 unfold YE;split
 .exact PB.nil
 .rename_i G
  have:=A3Z (t:=⟨vV,λ_=>0⟩) (d0:=0) h G u λi _=>⟨Int.le_refl _,Int.le_refl _⟩;rwa [Int.zero_add]at this
theorem A0E(h:In8 ve 0 a):PB [⟨1,ve⟩] 1 1 a:=ZQ (show(1:Rat)≠0 by decide) (rsz_one) h
where rsz_one:RSz (1:Rat) 1:=Ix (x:=1) Zbx Zbx
theorem Xm(z:Int):RSz ((Int.tmod z 4:Int):Rat) 1:=by
 have:=A3D z;exact Ix Zbx Zbx
theorem Xy(n:Nat)(r:Nat->Int)(h:0<=a):PB (YL a n r) 1 2 a:=A2n (A0E (XQ r h n)) (Xm _)
theorem Mi{m:Int}{n:Nat}(h:0<=m):∀(X:List (Nat->Int)) (A:List Tm) (k K:Nat),PB A k K m->PB (X.foldl (λa r=>HL a (YL m n r)) A) (k+X.length) (K+X.length*3) m
 |[],A,k,K,h=>h
 |r::X,A,k,K,N=>by
  have u:=(N.add (Xy n r h)).mono (Nat.le_refl _) (Nat.le_refl _) (Int.max_le.2 ⟨Int.le_refl _,Int.le_refl _⟩);have:=Mi (n:=n) h X _ _ _ u;exact this.mono ZgC ZgC (Int.le_refl _)
theorem A0P(X:List (Nat->Int))(n:Nat)(g:Nat)(h:0<=a):PB (XJ X n a g) g (g*3) a:=by
 have:=Mi (n:=min n 4) h (X.take (min X.length g)) [] 0 0 PB.nil;have L:(X.take (min X.length g)).length<=g:=ZgB
 exact this.mono Zbx Zbx (Int.le_refl _)
theorem ON(X:List (Nat->Int))(n:Nat){terms k:Nat}(h:0<=a)(B:k<=terms):PB (KD a n (X.take k)) terms (terms*3) a:=by
 have:=Mi (n:=n) h (X.take k) [] 0 0 PB.nil;have L:(X.take k).length<=terms:=ZgB
 exact this.mono Zbx Zbx (Int.le_refl _)
theorem A15(f:j->(Nat->Int)->j)(b:j){X:List (Nat->Int)}(h:n<X.length):(X.take (n+1)).foldl f b=f ((X.take n).foldl f b) (Fy X n):=by
 have e:X.take (n+1)=X.take n++[Fy X n]:=by
  rw[List.take_add_one,List.getElem?_eq_getElem h,Fy,List.getD_eq_getElem?_getD,List.getElem?_eq_getElem h];rfl
 rw[e,List.foldl_append];rfl
def ZE(X:List (Nat->Int)):Prop:=∀r∈X,∀j,j<5->-128<=r j/\r j<=127
theorem ZG(T:Nat)(X:List (Nat->Int))(n terms:Nat)(m:Int)(H:ZE X)(h:n<=8)(M:terms<=1000)(g:0<=m)(W:m<=1000):Abs Tryz.prog 126 [AL [r5D T X],ex (.int .i64 (n:Nat)),ex (.int .i64 m),ex (.int .i64 (terms:Nat))] (Cd (XJ X n m terms)):=by
 refine Ab Tryz.func126 λC=>?_;rw[Tryz.ntmps126]
 repeat (first | apply Aj | apply AWp.region | (apply A1X;refine Bx ?_) | (apply A3S;refine Tc (Aa rfl) (Aa rfl) rfl rfl rfl rfl rfl ?_) | (refine CA rfl rfl ?_;(apply Fg;refine⟨_,Dh (ao rfl),?_⟩)) | apply AWl.nil | apply Yn | apply AWp.block)
 refine AE (λF f=>∃k,k<=min X.length terms/\F=min X.length terms-k/\f=⟨[(1,.d (ex (.int .i64 (n:Nat)))),(2,.d (ex (.int .i64 m))),(3,.d (ex (.int .i64 (terms:Nat)))),(4,.ptr 0 0),(9,.d (Cd (KD m (min n 4) (X.take k)))),(10,.d (ex (.int .i64 (k:Nat))))],[.var 212 ([r5D T X].map .d)]⟩) ?le ⟨0,by omega,rfl,rfl⟩ ?round
 case le=>exact Ac (by repeat (first | exact FrLe.nil | refine Yd ?_ | refine Yp ?_ | refine FrLe.cons rfl (MJ rfl (D.le.refl _)) ?_)) Zde
 case round=>
  rintro F _ ⟨k,B,rfl,rfl⟩;by_cases Q:k<min X.length terms
  .have O:k<X.length:=by omega
   have Z:k<terms:=by omega
   repeat (first | apply Aj | apply AWp.region | (apply US;refine Al ?_) | (apply PU;refine Sf ?_) | (refine CA rfl rfl ?_;first | (apply EW;refine⟨_,Bb (ao rfl),?_⟩) | (apply Fg;refine⟨_,Dh (ao rfl),?_⟩) | (apply NQ;refine⟨_,GF (ao rfl) rfl (Aa rfl) rfl rfl,?_⟩) | (apply GI;refine⟨_,GG (ao rfl) (Aa rfl) rfl (Aa rfl) rfl,?_⟩) | (apply WS;refine⟨_,Bh rfl (Aa rfl),?_⟩) | (apply Hl;refine⟨_,Fp rfl (ao rfl) (ao rfl) ZbF,?_⟩) | (apply LM;refine⟨_,Gj (ao rfl) (ao rfl),?_⟩) | (apply UR;(refine ME (Aa rfl) (Aa rfl) rfl rfl ?_;(repeat ((first | refine⟨_,As (ao rfl),?_⟩ | refine⟨_,Po rfl,?_⟩);refine⟨_,rfl,?_⟩));refine⟨_,rfl,?_⟩))) | (refine MF rfl rfl rfl rfl rfl ?_;first | (apply EW;refine⟨_,Bb (ao rfl),?_⟩) | (apply Hl;refine⟨_,Fp rfl (ao rfl) (ao rfl) ZbF,?_⟩)) | apply AWl.nil | apply Yn | apply AWp.block | apply Gm | (apply IP;refine Ct ?_))
   refine AE (λF f=>∃i,i<=min n 4/\F=min n 4-i/\f=⟨[(1,.d (ex (.int .i64 (n:Nat)))),(2,.d (ex (.int .i64 m))),(3,.d (ex (.int .i64 (terms:Nat)))),(4,.ptr 0 0),(9,.d (Cd (KD m (min n 4) (X.take k)))),(10,.d (ex (.int .i64 (k:Nat)))),(11,.ptr 1 0),(12,.d (ex (.int .i64 (Vf m (Fy X k) i)))),(13,.d (ex (.int .i64 (i:Nat))))],[.var 212 ([r5D T X].map .d),.var 112 ((Cr (Sx m (Fy X k) i)).map .d)]⟩) ?lei ⟨0,by omega,rfl,rfl⟩ ?roundi
   case lei=>exact Ac (by repeat (first | exact FrLe.nil | refine Yd ?_ | refine Yp ?_)) Zde
   case roundi=>
    rintro F _ ⟨i,K,rfl,rfl⟩;by_cases d:i<min n 4
    .have L:=VJ (Fy X k) g i
     have Y:=H _ (Ub O) (i+1) Zbx;have b:On (Sx m (Fy X k) i) i (((Fy X k (i+1)).natAbs:Nat)%(Vf m (Fy X k) i+1)) i=((Fy X k (i+1)).natAbs:Nat)%(Vf m (Fy X k) i+1):=if_pos rfl;have j:=Int.emod_nonneg ((Fy X k (i+1)).natAbs:Int) (show Vf m (Fy X k) i+1≠0 by omega);have G:=Int.emod_lt_of_pos ((Fy X k (i+1)).natAbs:Int) (show 0<Vf m (Fy X k) i+1 by omega)
     repeat (first | refine CA rfl rfl ?_;refine⟨_,LH (ao rfl) (ao rfl) Zbx,?_⟩ | refine CA rfl rfl ?_;refine⟨_,Ip (ao rfl) (Aa rfl) rfl (CellAt.r5 (show i+1<5 by omega)),?_⟩ | apply Aj | apply AWp.region | (apply PU;refine JE (ao rfl) (ao rfl) rfl (Aa rfl) Zcg (SetAt.mon ZbI) rfl ?_) | (refine CA rfl rfl ?_;first | (apply EW;refine⟨_,Bb (ao rfl),?_⟩) | (apply Fg;refine⟨_,Dh (ao rfl),?_⟩) | (apply NQ;first | refine⟨_,GF (ao rfl) rfl (Aa rfl) rfl rfl,?_⟩ | refine⟨_,Ka (ao rfl) rfl (Aa rfl) rfl (HH ZbI),?_⟩) | (apply GI;refine⟨_,GG (ao rfl) (Aa rfl) rfl (Aa rfl) rfl,?_⟩) | (apply LN;first | refine⟨_,Ch rfl (ao rfl) (Aa rfl) (Aa rfl) rfl ZbI,?_⟩ | refine⟨_,KK (ao rfl) (ao rfl) (Aa rfl) (Aa rfl) ZbI,?_⟩ | refine⟨_,JB (ao rfl) (ao rfl) (Aa rfl) (Aa rfl) ZbI,?_⟩) | (apply WT;first | refine⟨_,JV (ao rfl) (ao rfl) Zbx,?_⟩ | refine⟨_,MC (ao rfl) (ao rfl) Zbx Zbx,?_⟩) | (apply A1O;refine⟨_,Mu (ao rfl) (ao rfl) Zbx Zbx,?_⟩) | (apply A1P;refine⟨_,PM (ao rfl) (ao rfl) Zbx Zbx,?_⟩) | (apply Hl;refine⟨_,Fp rfl (ao rfl) (ao rfl) ZbF,?_⟩) | (apply LM;refine⟨_,Gj (ao rfl) (ao rfl),?_⟩) | (apply UQ;refine⟨_,EL (ao rfl) (A1w (Fy X k (i+1)) Y.1 Y.2) ZbL,?_⟩)) | (refine MF rfl rfl rfl rfl rfl ?_;first | (apply EW;refine⟨_,Bb (ao rfl),?_⟩) | (apply Hl;refine⟨_,Fp rfl (ao rfl) (ao rfl) ZbF,?_⟩)) | apply AWl.nil | apply Yn | apply AWp.block | apply Gm | apply BE | (apply IP;refine Ct ?_))
     refine Am (min n 4-(i+1)) Zbx ⟨i+1,by omega,rfl,rfl⟩ ?_;exact Ac (by repeat (first | exact FrLe.nil | refine Yd ?_ | refine Yp ?_ | refine FrLe.cons rfl (AVle.int (by rw[b];rfl)) ?_)) (by repeat (first | exact HpLe.nil | refine HpLe.cons (OwLe.varD (by rw[A17])) ?_ | apply Yv))
    .obtain rfl:i=min n 4:=by omega
     have S:=Ub O;have v:=H _ S 0 Zbx;have V:=A3D (Fy X k 0);have c:-3<=Int.tmod (X.getD k default 0) 4/\Int.tmod (X.getD k default 0) 4<=3:=V;have E:=ON X (min n 4) (terms:=terms) g (Nat.le_of_lt Z);have I:=E.len;have M:=Xy (min n 4) (Fy X k) g;have N:=M.len;have u:=A0E (XQ (Fy X k) g (min n 4));have A:(Fy X k 0).tmod 4=IntKind.i64.wrap ((Fy X k 0).tmod 4):=(IntWalk.i64_in _ Zbx).symm;have w:KD m (min n 4) (X.take (k+1))=HL (KD m (min n 4) (X.take k)) (YL m (min n 4) (Fy X k)):=A15 (λa r=>HL a (YL m (min n 4) r)) [] O;rcases(show n<=4\/4<n by omega)with R | R
     all_goals
      repeat (first | apply Aj | apply AWp.region | (refine CA rfl rfl ?_;first | (apply EW;refine⟨_,Bb (ao rfl),?_⟩) | (apply Hl;first | refine⟨_,Fp rfl (ao rfl) (ao rfl) ZbF,?_⟩ | refine⟨_,GH rfl (ao rfl) (ao rfl) ZbF,?_⟩) | (apply LM;first | refine⟨_,Gj (ao rfl) (ao rfl),?_⟩ | refine⟨_,In (ao rfl) (ao rfl),?_⟩)) | refine Qa rfl rfl rfl rfl rfl ?_ | (refine MF rfl rfl rfl rfl rfl ?_;first | (apply EW;refine⟨_,Bb (ao rfl),?_⟩) | (apply Hl;refine⟨_,GH rfl (ao rfl) (ao rfl) ZbF,?_⟩)) | apply AWl.nil | apply Yn | apply Cl | apply BF | apply BJ | apply Ca | (apply IP;refine Cf ?_))
      refine Dy 16 ?_
      repeat (first | refine⟨_,rfl,?_⟩ | (apply SW;(refine Xq (Bb (ah rfl)) ?_)) | (apply SX;first | (refine Xq (Mx (ah rfl) rfl (Aa rfl) rfl rfl) ?_) | (refine Xq (GF (ah rfl) rfl (Aa rfl) rfl rfl) ?_) | (refine Xq (FU (ah rfl) (Aa rfl) rfl rfl) ?_)) | (apply IN;(refine Xq (GG (ah rfl) (Aa rfl) rfl (Aa rfl) rfl) ?_)) | (apply IM;first | (refine Xq (Ch rfl (ah rfl) (Aa rfl) (Aa rfl) rfl ZbI) ?_) | (refine Xq (ST (ah rfl) (ah rfl) (Aa rfl) (Aa rfl) ZbA ZbA rfl) ?_)) | (apply WV;(refine Xq (NL (ah rfl) (ah rfl) ZbA) ?_)) | (apply MD;(refine Xq (CF (ah rfl) (Aa rfl) (Aa rfl) rfl rfl rfl rfl rfl) ?_)) | (apply SY;(refine Xq (FN (ah rfl) (Aa rfl) (Aa rfl) Zbx Zbx) ?_)) | (apply PT;(refine Hq rfl ?_;refine AP (Aa rfl) rfl rfl rfl ?_;(repeat ((first | refine⟨_,As (ah rfl),?_⟩ | refine⟨_,Po rfl,?_⟩);refine⟨_,rfl,?_⟩));refine⟨_,rfl,?_⟩;refine⟨_,rfl,?_⟩)) | (apply PS;first | (refine Xq (EL (ah rfl) (FY ((Fy X k 0).tmod 4) Zbx Zbx) ZbL) ?_) | (refine Xq (EL (ah rfl) (FY 1 Zbx Zbx) ZbL) ?_) | (refine Xq (EL (ah rfl) (Wi ((Int.tmod (Fy X k 0) 4:Int):Rat) [⟨1,Sx m (Fy X k) (min n 4)⟩] 1 1 (Xm _) u.sz (u.ex.mono (Int.le_refl _) Zbx) ZbK Zbx) ZbL) ?_) | (refine Xq (EL (ah rfl) (A1A (KD m (min n 4) (X.take k)) (YL m (min n 4) (Fy X k)) (terms*3) 2 E.sz M.sz Zbx Zbx) ZbL) ?_)))
      repeat (first | apply AWp.region | (refine CA rfl rfl ?_;first | (apply EW;refine⟨_,Bb (ao rfl),?_⟩) | (apply Fg;refine⟨_,Dh (ao rfl),?_⟩) | (apply WT;refine⟨_,JV (ao rfl) (ao rfl) Zbx,?_⟩)) | apply AWl.nil | apply Yn | apply BE)
      refine Am (min X.length terms-(k+1)) Zbx ⟨k+1,by omega,rfl,rfl⟩ ?_;exact Ac (by repeat (first | exact FrLe.nil | refine Yd ?_ | refine Yp ?_ | refine FrLe.cons rfl (AVle.le (PW w.symm)) ?_)) Zde
  .obtain rfl:k=min X.length terms:=by omega
   rcases(show X.length<=terms\/terms<X.length by omega)with M | M
   all_goals
    repeat (first | apply Aj | apply AWp.region | (refine CA rfl rfl ?_;first | (apply EW;refine⟨_,Bb (ao rfl),?_⟩) | (apply Fg;refine⟨_,Dh (ao rfl),?_⟩) | (apply NQ;refine⟨_,GF (ao rfl) rfl (Aa rfl) rfl rfl,?_⟩) | (apply GI;refine⟨_,GG (ao rfl) (Aa rfl) rfl (Aa rfl) rfl,?_⟩) | (apply WS;refine⟨_,Bh rfl (Aa rfl),?_⟩) | (apply Hl;first | refine⟨_,Fp rfl (ao rfl) (ao rfl) ZbF,?_⟩ | refine⟨_,GH rfl (ao rfl) (ao rfl) ZbF,?_⟩) | (apply LM;first | refine⟨_,Gj (ao rfl) (ao rfl),?_⟩ | refine⟨_,In (ao rfl) (ao rfl),?_⟩)) | refine Qa rfl rfl rfl rfl rfl ?_ | (refine MF rfl rfl rfl rfl rfl ?_;first | (apply EW;refine⟨_,Bb (ao rfl),?_⟩) | (apply Hl;refine⟨_,GH rfl (ao rfl) (ao rfl) ZbF,?_⟩)) | apply AWl.nil | apply Yn | apply Cl | apply BG | apply BF | apply BJ | apply Ca | (apply IP;refine Cf ?_))
    exact Yf
def gdD(t:Bool)(x:D):D:=⟨λs v=>(t=true->x.rel s v)/\(t=false->v=undef),λh G=>⟨λM=>x.st (h.1 M) G,h.2⟩⟩
theorem A14(h:p=true):D.le r (gdD p r):=λ_ _ o=>⟨λ_=>o,(λe=>by rw[h]at e;cases e)⟩
theorem A2Q(h:p=false):D.le (ex undef) (gdD p r):=λ_ _ o=>⟨(λe=>by rw[h]at e;cases e),λ_=>o⟩
def Ovr(t:Bool)(S:List (Nat×AV))(l:List (Nat×AV)):Prop:=∀p∈l,∃x,p.2=.d x/\BR S p.1=some (.d (gdD t x))
theorem Ovr.nil{t:Bool}:Ovr t vd []:=λp F=>by cases F
theorem Ovr.cons{t:Bool}{S l:List (Nat×AV)}{u:Nat}{x:D}(h:BR S u=some (.d (gdD t x)))(b:Ovr t S l):Ovr t S ((u,.d x)::l):=λp F=>by
 rcases List.mem_cons.1 F with rfl | F
 .exact ⟨x,rfl,h⟩
 .exact b p F
theorem TV(h:BR (vd++uw) n=some g):(∃p∈vd,p.1=n/\p.2=g)\/BR uw n=some g:=by
 induction vd with
 |nil=>exact .inr h
 |cons p vd u=>
  rw[List.cons_append,Cx]at h;split at h
  .rename_i e
   exact .inl ⟨p,List.mem_cons_self,e,Option.some.inj h⟩
  .rcases u h with⟨q,z,e⟩ | h
   .exact .inl ⟨q,List.mem_cons_of_mem _ z,e⟩
   .exact .inr h
theorem Ovr.sti{s0:An}{a:Act}{s:GS}{S:Nat->Value}(h:Ovr p vd uw)(M:p=true)(hst:StI s0 n ⟨vd,H⟩ a s S):StI s0 n ⟨uw++vd,H⟩ a s S:=⟨hst.le,hst.ok,λu B C=>by
 rcases TV C with⟨A,r,d,v⟩ | C
 .obtain ⟨x,U,F⟩:=h A r
  rw[<-v,U];rw[d]at F;exact(hst.fr u _ F).1 M
 .exact hst.fr u B C,hst.sz,hst.df,hst.hp,hst.sep,hst.own⟩
theorem Ovr.back(h:Ovr p vd uw)(M:p=true):AS.le ⟨(n,.d r)::(uw++vd),H⟩ ⟨(n,.d (gdD p r))::vd,H⟩:=λI A a w ⟨s,S,V,F⟩=>⟨s,S,V,⟨F.le,F.ok,λu G K=>by
 rw[Cx]at K;split at K
 .rename_i e
  cases K;have B:=F.fr u (.d r) (by show BR ((n,.d r)::(uw++vd)) u=_;rw[Cx,if_pos e]);exact A14 M _ _ B
 .rename_i e
  have c:∀uw:List (Nat×AV),BR (uw++vd) u≠none:=λuw=>by
   induction uw with
   |nil=>rw[List.nil_append,K];exact λh=>by cases h
   |cons C uw N=>
    rw[List.cons_append,Cx];split
    .exact λh=>by cases h
    .exact N
  cases L:BR (uw++vd) u with
  |none=>exact absurd L (c uw)
  |some Q=>
   have B:=F.fr u Q (by show BR ((n,.d r)::(uw++vd)) u=_;rw[Cx,if_neg e,L]);rcases TV L with⟨C,E,d,v⟩ | L
   .obtain ⟨x,U,O⟩:=h C E
    rw[d,K]at O;cases O;rw[<-v,U]at B;exact A14 M _ _ B
   .rw [K]at L
    cases L;exact B,F.sz,F.df,F.hp,F.sep,F.own⟩⟩
section
variable {P:Program} {s0:An} {n:Nat} {ops:Array Oper} {Q:Exit->AS->Prop} {rest:List Oper} {fr:List (Nat×AV)} {hp:List Ow} {ty:TypeId} {ps:String} {af:Array Edge}
theorem FO{d:Nat}{A t g:Bool}(l:List (Nat×AV))(G:g=(t==A))(O:Ovr g fr l)(N:(ops[b]?).bind (·.dst)=some T)(L:BR fr T=some (.d (ex (.bool t))))(y:Nat.blt T n=true)(B:Bz ug=true)(W:Nat.blt d n=true)(z:g=true->Quiet P hp ⟨some d,ug,ty,ps,af,some (b,A)⟩ (AS.arg ⟨l++fr,hp⟩) (.d r))(h:AWl P s0 n ops Q rest ⟨(d,.d (gdD g r))::fr,hp⟩):AWl P s0 n ops Q (⟨some d,ug,ty,ps,af,some (b,A)⟩::rest) ⟨fr,hp⟩:=by
 cases F:g with
 |true=>
  have I:t=A:=by rw[F]at G;exact(beq_iff_eq.1 G.symm)
  subst I;exact UZ (o:=⟨some d,ug,ty,ps,af,some (b,t)⟩) rfl N L (λs S a C K p=>Ox (o:=⟨some d,ug,ty,ps,af,some (b,t)⟩) (n:=n) (σ:=⟨l++fr,hp⟩) B (show Td (some d) n=true from W) (z F) (Ba (O.back F) h) s S a (O.sti F C) K p) ZdO
 |false=>
  have E:isB (.bool t) A=false:=by
   rw[F]at G;exact G.symm
  refine Qa N L E y W (Ba ?_ h)
  exact λs0 n a w ⟨s,S,V,C⟩=>⟨s,S,V,⟨C.le,C.ok,λu H M=>by
   rw[Cx]at M;split at M
   .rename_i U
    cases M;exact A2Q F _ _ (C.fr u (.d (ex undef)) (by show BR ((d,.d (ex undef))::fr) u=_;rw[Cx,if_pos U]))
   .rename_i U
    exact C.fr u H (by show BR ((d,.d (ex undef))::fr) u=_;rw[Cx,if_neg U];exact M),C.sz,C.df,C.hp,C.sep,C.own⟩⟩
theorem IY{d:Nat}(z:p=true->Quiet P hp ⟨some d,ug,ty,ps,af,some (b,true)⟩ (AS.arg ⟨[]++fr,hp⟩) (.d r))(h:AWl P s0 n ops Q rest ⟨(d,.d (gdD p r))::fr,hp⟩)(N:(ops[b]?).bind (·.dst)=some T:=by exact rfl)(L:BR fr T=some (.d (ex (.bool p))):=by exact rfl)(y:Nat.blt T n=true:=by exact rfl)(u:Bz ug=true:=by exact rfl)(W:Nat.blt d n=true:=by exact rfl):AWl P s0 n ops Q (⟨some d,ug,ty,ps,af,some (b,true)⟩::rest) ⟨fr,hp⟩:=FO _ Zdu Ovr.nil N L y u W z h
theorem DW{d:Nat}(E:Nat)(O:BR fr E=some (.d (gdD p vu)))(z:p=true->Quiet P hp ⟨some d,ug,ty,ps,af,some (b,true)⟩ (AS.arg ⟨[(E,.d vu)]++fr,hp⟩) (.d r))(h:AWl P s0 n ops Q rest ⟨(d,.d (gdD p r))::fr,hp⟩)(N:(ops[b]?).bind (·.dst)=some T:=by exact rfl)(L:BR fr T=some (.d (ex (.bool p))):=by exact rfl)(y:Nat.blt T n=true:=by exact rfl)(u:Bz ug=true:=by exact rfl)(W:Nat.blt d n=true:=by exact rfl):AWl P s0 n ops Q (⟨some d,ug,ty,ps,af,some (b,true)⟩::rest) ⟨fr,hp⟩:=FO _ Zdu (Ovr.cons O Ovr.nil) N L y u W z h
theorem Wu2{d:Nat}(E:Nat)(O:BR fr E=some (.d (gdD p vu)))(V:Nat)(Y:BR fr V=some (.d (gdD p ux)))(z:p=true->Quiet P hp ⟨some d,ug,ty,ps,af,some (b,true)⟩ (AS.arg ⟨[(E,.d vu),(V,.d ux)]++fr,hp⟩) (.d r))(h:AWl P s0 n ops Q rest ⟨(d,.d (gdD p r))::fr,hp⟩)(N:(ops[b]?).bind (·.dst)=some T:=by exact rfl)(L:BR fr T=some (.d (ex (.bool p))):=by exact rfl)(y:Nat.blt T n=true:=by exact rfl)(u:Bz ug=true:=by exact rfl)(W:Nat.blt d n=true:=by exact rfl):AWl P s0 n ops Q (⟨some d,ug,ty,ps,af,some (b,true)⟩::rest) ⟨fr,hp⟩:=FO _ Zdu (Ovr.cons O (Ovr.cons Y Ovr.nil)) N L y u W z h
theorem Te{d:Nat}(z:(!p)=true->Quiet P hp ⟨some d,ug,ty,ps,af,some (b,false)⟩ (AS.arg ⟨[]++fr,hp⟩) (.d r))(h:AWl P s0 n ops Q rest ⟨(d,.d (gdD (!p) r))::fr,hp⟩)(N:(ops[b]?).bind (·.dst)=some T:=by exact rfl)(L:BR fr T=some (.d (ex (.bool p))):=by exact rfl)(y:Nat.blt T n=true:=by exact rfl)(u:Bz ug=true:=by exact rfl)(W:Nat.blt d n=true:=by exact rfl):AWl P s0 n ops Q (⟨some d,ug,ty,ps,af,some (b,false)⟩::rest) ⟨fr,hp⟩:=FO _ Zdu Ovr.nil N L y u W z h
theorem Wv1{d:Nat}(E:Nat)(O:BR fr E=some (.d (gdD (!p) vu)))(z:(!p)=true->Quiet P hp ⟨some d,ug,ty,ps,af,some (b,false)⟩ (AS.arg ⟨[(E,.d vu)]++fr,hp⟩) (.d r))(h:AWl P s0 n ops Q rest ⟨(d,.d (gdD (!p) r))::fr,hp⟩)(N:(ops[b]?).bind (·.dst)=some T:=by exact rfl)(L:BR fr T=some (.d (ex (.bool p))):=by exact rfl)(y:Nat.blt T n=true:=by exact rfl)(u:Bz ug=true:=by exact rfl)(W:Nat.blt d n=true:=by exact rfl):AWl P s0 n ops Q (⟨some d,ug,ty,ps,af,some (b,false)⟩::rest) ⟨fr,hp⟩:=FO _ Zdu (Ovr.cons O Ovr.nil) N L y u W z h
theorem Wv2{d:Nat}(E:Nat)(O:BR fr E=some (.d (gdD (!p) vu)))(V:Nat)(Y:BR fr V=some (.d (gdD (!p) ux)))(z:(!p)=true->Quiet P hp ⟨some d,ug,ty,ps,af,some (b,false)⟩ (AS.arg ⟨[(E,.d vu),(V,.d ux)]++fr,hp⟩) (.d r))(h:AWl P s0 n ops Q rest ⟨(d,.d (gdD (!p) r))::fr,hp⟩)(N:(ops[b]?).bind (·.dst)=some T:=by exact rfl)(L:BR fr T=some (.d (ex (.bool p))):=by exact rfl)(y:Nat.blt T n=true:=by exact rfl)(u:Bz ug=true:=by exact rfl)(W:Nat.blt d n=true:=by exact rfl):AWl P s0 n ops Q (⟨some d,ug,ty,ps,af,some (b,false)⟩::rest) ⟨fr,hp⟩:=FO _ Zdu (Ovr.cons O (Ovr.cons Y Ovr.nil)) N L y u W z h
end
section
variable {P:Program} {hp:List Ow} {arg:Operand->AV} {dd:Option Tmp} {ty:TypeId} {ps:String} {af:Array Edge} {gd:Option (Nat×Bool)}
theorem LK(C:arg y=.d (gdD p (ex (.bool ul))))(N:arg vX=.d (ex (.bool false)))(G:arg x=.d (ex (.bool p))):Quiet P hp ⟨dd,.pick x y vX,ty,ps,af,gd⟩ arg (.d (ex (.bool (p&&ul)))):=by
 cases p with
 |false=>exact Nm (o:=⟨dd,.pick x y vX,ty,ps,af,gd⟩) rfl N G
 |true=>
  refine⟨λbase s S j T w a h=>?_⟩;have u:=h x Zcp;have A:=h y Zcp;rw[G]at u;rw[C]at A;have d:j x=.bool true:=u;have v:j y=.bool ul:=A.1 rfl;exact BL (v:=j y) (by simp[execOp,d,asBool]) ⟨GS.Le.refl s,by rw[v];rfl⟩
theorem LJ(C:arg vX=.d (gdD (!p) (ex (.bool ul))))(N:arg y=.d (ex (.bool true)))(G:arg x=.d (ex (.bool p))):Quiet P hp ⟨dd,.pick x y vX,ty,ps,af,gd⟩ arg (.d (ex (.bool (p||ul)))):=by
 cases p with
 |true=>exact Nl (o:=⟨dd,.pick x y vX,ty,ps,af,gd⟩) rfl N G
 |false=>
  refine⟨λbase s S j T w a h=>?_⟩;have u:=h x Zcp;have A:=h vX Zcp;rw[G]at u;rw[C]at A;have d:j x=.bool false:=u;have v:j vX=.bool ul:=A.1 rfl;exact BL (v:=j vX) (by simp[execOp,d,asBool]) ⟨GS.Le.refl s,by rw[v];rfl⟩
theorem Cg(C:arg y=.d (gdD p (ex (.bool ul))):=by first | exact ao rfl | exact ah rfl)(N:arg vX=.d (ex (.bool false)):=by first | exact ao rfl | exact ah rfl)(G:arg x=.d (ex (.bool p)):=by first | exact ao rfl | exact ah rfl):Quiet P hp ⟨dd,.pick x y vX,ty,ps,af,gd⟩ arg (.d (ex (.bool (p&&ul)))):=LK C N G
theorem Im(C:arg vX=.d (gdD (!p) (ex (.bool ul))):=by first | exact ao rfl | exact ah rfl)(N:arg y=.d (ex (.bool true)):=by first | exact ao rfl | exact ah rfl)(G:arg x=.d (ex (.bool p)):=by first | exact ao rfl | exact ah rfl):Quiet P hp ⟨dd,.pick x y vX,ty,ps,af,gd⟩ arg (.d (ex (.bool (p||ul)))):=LJ C N G
end
structure CutS{ι:Type}(f:ι->AS)(p:ι->Prop)(Q:Exit->AS->Prop)(e:Exit)(σ:AS):Prop where
 h:(e=.normal/\∃i,p i/\AS.le σ (f i))\/(e≠.normal/\Q e σ)
theorem CutS.normal{f:j->AS}{Q:Exit->AS->Prop}{σ:AS}(i:j)(F:um i)(L:AS.le σ (f i)):CutS f um Q .normal σ:=⟨.inl ⟨rfl,i,F,L⟩⟩
theorem CutS.ret{f:j->AS}{p:j->Prop}{Q:Exit->AS->Prop}(h:Q .ret vc):CutS f p Q .ret vc:=⟨.inr ⟨by simp,h⟩⟩
theorem LQ{s0:An}(f:j->AS)(p:j->Prop)(run:AWp P s0 n vn (CutS f p vl) vc)(k:∀i,p i->AWp P s0 n ua vl (f i)):AWp P s0 n vn (AThen (AWp P s0 n ua vl) vl) vc:=⟨λa w b=>wp_mono (run.run a w b) λe Q O ⟨S,⟨u⟩,A⟩=>by
 rcases u with⟨rfl,i,K,L⟩ | ⟨hne,hQ⟩
 .exact ⟨S,⟨Hm L (k i K)⟩,A⟩
 .refine ⟨S,?_,A⟩
  cases e with
  |normal=>exact absurd rfl hne
  |ret=>exact Di hQ
  |exit i=>exact BF hQ
  |_=>exact⟨hQ⟩⟩
theorem AWp.cutB{s0:An}(id:Nat)(f:j->AS)(p:j->Prop)(run:AWp P s0 n (.block id vn) (CutS f p vl) vc)(k:∀i,p i->AWp P s0 n ua vl (f i)):AWp P s0 n (.seq (.block id vn) ua) vl vc:=Aj (LQ f p run k)
def CellsLe(F:List Ow)(m:Nat):List AV->List AV->Prop
 |[],[]=>True
 |x::l,y::r=>AVle F m x y/\CellsLe F m l r
 |_,_=>False
theorem CellsLe.nil{hp:List Ow}{m:Nat}:CellsLe hp m [] []:=trivial
theorem CellsLe.cons{m:Nat}{x y:AV}{l r:List AV}(h:AVle H m x y)(b:CellsLe H m l r):CellsLe H m (x::l) (y::r):=⟨h,b⟩
theorem CellsLe.get{F:List Ow}{m:Nat}:∀{l r:List AV},CellsLe F m l r->l.length=r.length/\∀(k:Nat) y,r[k]? = some y->∃x,l[k]? = some x/\AVle F m x y
 |[],[],_=>⟨rfl,λk y h=>by cases h⟩
 |[],_::_,h=>h.elim
 |_::_,[],h=>h.elim
 |x::l,y::r,⟨u,A⟩=>by
  obtain⟨I,V⟩:=CellsLe.get A;refine⟨by simp[I],λk z B=>?_⟩
  cases k with
  |zero=>cases B;exact⟨x,rfl,u⟩
  |succ k=>exact V k z Zck
theorem OwLe.cells{m T:Nat}{c r:List AV}(h:CellsLe H m c r):OwLe H m (.var T c) (.var T r):=OwLe.var h.get.1 h.get.2
def DsLe:List D->List D->Prop
 |[],[]=>True
 |x::l,y::r=>D.le x y/\DsLe l r
 |_,_=>False
theorem DsLe.nil:DsLe [] []:=trivial
theorem DsLe.cons{x y:D}{l r:List D}(h:D.le x y)(b:DsLe l r):DsLe (x::l) (y::r):=⟨h,b⟩
theorem DsLe.get:∀{l r:List D},DsLe l r->l.length=r.length/\∀k,k<l.length->D.le (Df l k) (Df r k)
 |[],[],_=>⟨rfl,λk h=>absurd h ZbK⟩
 |[],_::_,h=>h.elim
 |_::_,[],h=>h.elim
 |x::l,y::r,⟨u,A⟩=>by
  obtain⟨I,V⟩:=DsLe.get A;refine⟨by simp[I],λk B=>?_⟩
  cases k with
  |zero=>exact u
  |succ k=>exact V k Zck
theorem Cz {l r : List D} (h : DsLe l r) : D.le (AL l) (AL r) := fun s v ⟨Z, A, B, I⟩ => ⟨Z, A, by rw [B, h.get.1], fun k C => by
 rw[<-h.get.1]at C;obtain⟨u,V,m,y⟩:=I k C;exact⟨u,V,m,h.get.2 k C s u y⟩⟩
theorem Zf (a b : Nat → Int) (w : World) : (do eqGuard .eql 36 x y (.agg (c8 a)) (.agg (c8 b)); binOp .eql 36 (.agg (c8 a)) (.agg (c8 b)) : Sem Value).run Tryz.prog w = .ok (.bool (Na a b)) w := by
 have heq:(Op.equalIn Op.maxDepth 36 (.agg (c8 a)) (.agg (c8 b))).run Tryz.prog w=.ok (Na a b) w:=Vv a b w;simp[eqGuard,binOp,Op.equal,heq]
section
variable {hp:List Ow} {arg:Operand->AV} {dd:Option Tmp} {ty:TypeId} {ps:String} {af:Array Edge} {gd:Option (Nat×Bool)}
theorem A1G{U:TypeId}{a b:Nat->Int}(C:arg x=.d (AL (Cr a)))(N:arg y=.d (AL (Cr b))):Quiet Tryz.prog hp ⟨dd,.binOp .eql 36 x y U,ty,ps,af,gd⟩ arg (.d (ex (.bool (Na a b)))):=
 Hg rfl C N (λ_ _ h=>CO h) (λ_ _ h=>CO h) λw=>Zf a b w
end
structure RQ where
 b:Bool
 l:List Nat
 b':Bool
 l':List Nat
instance:Inhabited RQ:=⟨⟨false,[],false,[]⟩⟩
def Bl(n:Nat):List Nat:=if n<128 then[n]else(n%128+128)::Bl (n/128)
termination_by n
decreasing_by omega
def u64(z:Int):Nat:=(z%18446744073709551616).toNat
def TN(z:Int):Nat:=if z<0 then 2*(-(z+1)).toNat+1 else 2*z.toNat
def Bc(z:Int):List Nat:=Bl (TN z)
def Cj(w:Nat):List Nat:=[w/16777216%256,w/65536%256,w/256%256,w%256]
def Gq(b:Bool)(l:List Nat):List Nat:=Bl (2*l.length+(if b=true then 1 else 0))++l.flatMap Cj
def Cv(q:RQ):List Nat:=Gq q.b q.l++Gq q.b' q.l'
def KC{E:Type}(e:E->List Nat)(f:Nat->E):List Nat:=(List.range 8).flatMap λi=>e (f i)
def Eq(t:RTm):List Nat:=(Gq t.b t.l++Gq t.b' t.l')++KC (λz=>Bl (u64 z)) t.m
def Bk{E:Type}(e:E->List Nat)(l:List E):List Nat:=Bl l.length++l.flatMap e
abbrev Co:List RTm->List Nat:=Bk Eq
abbrev AQ:List (List RTm)->List Nat:=Bk Co
abbrev Bs:List (List (List RTm))->List Nat:=Bk AQ
abbrev Fv:(Nat->Int)->List Nat:=KC Bc
abbrev Cc:List (Nat->Int)->List Nat:=Bk Fv
abbrev Ft:List RQ->List Nat:=Bk Cv
def FH(a:RQ×RQ):List Nat:=Cv a.1++Cv a.2
abbrev GD:(Nat->RQ×RQ)->List Nat:=KC FH
abbrev EB:List (Nat->RQ×RQ)->List Nat:=Bk GD
abbrev ND:(Nat->RQ)->List Nat:=KC Cv
def IZ(s:RQ×List RTm):List Nat:=Cv s.1++Co s.2
structure Cor where
 n:Int
 e:List (List RTm)
 f:List (List RTm)
structure Clm where
 kind:Int
 p:List RTm
 n:Int
 d:Int
 r:Int
 o:List (Nat->Int)
 l:List (List RTm)
 s:List Int
 b:List (Nat->RQ×RQ)
structure Rsl where
 l:Nat->Int
 q:List RQ
 r:Nat->List RQ
structure Crt where
 n:Int
 cof:List (List RTm)
 g:List (List RTm)
 o:List (Nat->Int)
 c:List (List (List RTm))
 q:List (List (List RTm))
 s:List (List (List RTm))
 r:Rsl
 a:List (RQ×RQ)
 sq:List (RQ×List RTm)
 x:List (Nat->RQ)
 b:List (Nat->RQ×RQ)
structure Fct where
 k:Cor
 c:Clm
 e:Crt
def FA(k:Cor):List Nat:=(Bc k.n++AQ k.e)++AQ k.f
def IH(c:Clm):List Nat:=Bc c.kind++Co c.p++Bc c.n++Bc c.d++Bc c.r++Cc c.o++AQ c.l++Bk Bc c.s++EB c.b
def Je(r:Rsl):List Nat:=Fv r.l++Ft r.q++KC Ft r.r
def KG(e:Crt):List Nat:=Bc e.n++AQ e.cof++AQ e.g++Cc e.o++Bs e.c++Bs e.q++Bs e.s++Je e.r++Bk FH e.a++Bk IZ e.sq++Bk ND e.x++EB e.b
def Fz(f:Fct):List Nat:=FA f.k++IH f.c++KG f.e
abbrev Rd(E:Type):=List Nat->Option (E×List Nat)
def BT{E:Type}(a:E):Rd E:=λb=>some (a,b)
def Rd.bind{E V:Type}(p:Rd E)(f:E->Rd V):Rd V:=λb=>match p b with
 |none=>none
 |some (a,x)=>f a x
def Nt:Nat->Nat->Nat->Rd Nat
 |0,_,_=>λ_=>none
 |k+1,s,n=>λb=>match b with
  |[]=>none
  |c::x=>if 18446744073709551616<=(c%128)*s then none else if c<128 then some (n+(c%128)*s,x)else Nt k (s*128) (n+(c%128)*s) x
def Ns:Rd Nat:=Nt 10 1 0
def RT{E:Type}(p:Rd E)(e:E->List Nat)(D:E->Prop):Prop:=∀x,D x->∀b,p (e x++b)=some (x,b)
theorem XH:∀(k s n x:Nat),0<s->x*s<18446744073709551616->x<128^k->0<k->∀b,Nt k s n (Bl x++b)=some (n+x*s,b)
 |0,_,_,_,_,_,_,h,_=>absurd h (Nat.lt_irrefl 0)
 |k+1,s,n,x,u,C,B,_,b=>by
  rw[Bl];split
  .rename_i h
   rw[List.cons_append,List.nil_append,Nt]
   dsimp only
   rw[Nat.mod_eq_of_lt h,if_neg Zbx,if_pos h]
  .rename_i h
   rw[List.cons_append,Nt];have d:(x%128+128)%128=x%128:=by omega
   have v:x%128*s<=x*s:=Nat.mul_le_mul (Nat.mod_le _ _) (Nat.le_refl _)
   dsimp only
   rw[d,if_neg Zbx,if_neg Zbx]
   have r:x/128<128^k:=by
    rw[Nat.div_lt_iff_lt_mul Zbx];rwa [Nat.pow_succ]at B
   have g:0<k:=by
    rcases Nat.eq_zero_or_pos k with e | e
    .subst e
     rw[Nat.pow_zero]at r;omega
    .exact e
   have U:x/128*(s*128)=(x/128*128)*s:=by rw[Nat.mul_comm s 128,Nat.mul_assoc]
   have F:x*s=x%128*s+x/128*128*s:=by
    rw[<-Nat.add_mul];exact ZfJ
   rw[XH k (s*128) _ (x/128) Zbx (by rw[U];omega) r g b,U];congr 2;omega
theorem A2G:RT Ns Bl λn=>n<18446744073709551616:=λx C b=>by
 have:=XH 10 1 0 x Zbx Zbx (Nat.lt_trans C ZbA) Zbx b;rw[Ns,this,Nat.zero_add,Nat.mul_one]
variable{vN:Rd j}
theorem AU{e:j->List Nat}(h:RT vN e um)(f:j->Rd uD){x:j}(C:um x)(b:List Nat):vN.bind f (e x++b)=f x b:=by
 rw[Rd.bind,h x C b]
def BQ{E:Type}(p:Rd E):Nat->Rd (List E)
 |0=>BT []
 |n+1=>p.bind λx=>(BQ p n).bind λl=>BT (x::l)
theorem NC{E:Type}{p:Rd E}{e:E->List Nat}{D:E->Prop}(h:RT p e D):∀(l:List E),(∀x∈l,D x)->∀b,BQ p l.length (l.flatMap e++b)=some (l,b)
 |[],_,b=>rfl
 |x::l,L,b=>by
  rw[List.length_cons,BQ,List.flatMap_cons,List.append_assoc,AU h _ (L x List.mem_cons_self),Rd.bind,NC h l (λy N=>L y (List.mem_cons_of_mem _ N))];rfl
def Jm(c:List Nat->Bool):Rd Unit:=λb=>if c b=true then some ((),b)else none
theorem CL{E:Type}{e:E->List Nat}:∀{l:List E},(∀x∈l,0<(e x).length)->l.length<=(l.flatMap e).length
 |[],_=>Nat.zero_le _
 |x::l,h=>by
  have u:=CL (e:=e) (l:=l) λy N=>h y (List.mem_cons_of_mem _ N);have A:=h x List.mem_cons_self;rw[List.flatMap_cons,List.length_append,List.length_cons];omega
structure Lg where
 nat:Rd Nat
 ex:Nat->Bool
structure LgOk(G:Lg):Prop where
 nat:RT G.nat Bl λn=>n<9223372036854775808
 ex:∀n,n<=65535->G.ex n=true
section
variable (G:Lg)
def Ff{E:Type}(p:Rd E):Rd (List E):=G.nat.bind λn=>(Jm λb=>decide (n<=b.length)).bind λ_=>BQ p n
def Ja:Rd Nat:=λb=>match b with
 |z::v::t::h::x=>some (z*16777216+v*65536+t*256+h,x)
 |_=>none
def OX:Rd (Bool×List Nat):=G.nat.bind λn=>(Jm λb=>decide (n/2<=b.length/4)).bind λ_=>(BQ Ja (n/2)).bind λl=>BT (decide (n%2=1),l)
def Fw:Rd RQ:=(OX G).bind λa=>(OX G).bind λc=>BT ⟨a.1,a.2,c.1,c.2⟩
def KB{E:Type}[Inhabited E](p:Rd E):Rd (Nat->E):=(BQ p 8).bind λl=>BT λi=>l.getD i default
def Pf:Rd Int:=G.nat.bind λn b=>if G.ex n=true then some ((n:Int),b)else none
def HO:Rd RTm:=(Fw G).bind λq=>(KB (Pf G)).bind λm=>BT ⟨q.b,q.l,q.b',q.l',m⟩
def Hr:Rd Int:=G.nat.bind λn=>BT (if n%2=0 then((n/2:Nat):Int)else -((n/2:Nat):Int)-1)
abbrev Gv:Rd (List RTm):=Ff G (HO G)
abbrev DZ:Rd (List (List RTm)):=Ff G (Gv G)
abbrev LX:Rd (List (List (List RTm))):=Ff G (DZ G)
abbrev Qi:Rd (Nat->Int):=KB (Hr G)
abbrev Me:Rd (List (Nat->Int)):=Ff G (Qi G)
abbrev RK:Rd (List RQ):=Ff G (Fw G)
def Sr:Rd (RQ×RQ):=(Fw G).bind λa=>(Fw G).bind λb=>BT (a,b)
abbrev SC:Rd (Nat->RQ×RQ):=KB (Sr G)
abbrev Mp:Rd (List (Nat->RQ×RQ)):=Ff G (SC G)
abbrev ptP:Rd (Nat->RQ):=KB (Fw G)
def YC:Rd (RQ×List RTm):=(Fw G).bind λa=>(Gv G).bind λp=>BT (a,p)
def Uo:Rd Cor:=(Hr G).bind λn=>(DZ G).bind λe=>(DZ G).bind λf=>BT ⟨n,e,f⟩
def KH:Rd Clm:=(Hr G).bind λkind=>(Gv G).bind λp=>(Hr G).bind λn=>(Hr G).bind λd=>(Hr G).bind λr=>(Me G).bind λo=>(DZ G).bind λl=>(Ff G (Hr G)).bind λs=>(Mp G).bind λb=>BT ⟨kind,p,n,d,r,o,l,s,b⟩
def Tt:Rd Rsl:=(Qi G).bind λl=>(RK G).bind λq=>(KB (RK G)).bind λr=>BT ⟨l,q,r⟩
def IX:Rd Crt:=(Hr G).bind λn=>(DZ G).bind λd=>(DZ G).bind λg=>(Me G).bind λo=>(LX G).bind λc=>(LX G).bind λq=>(LX G).bind λs=>(Tt G).bind λr=>(Ff G (Sr G)).bind λa=>(Ff G (YC G)).bind λe=>(Ff G (ptP G)).bind λx=>(Mp G).bind λb=>BT ⟨n,d,g,o,c,q,s,r,a,e,x,b⟩
def Pc:Rd Fct:=(Uo G).bind λk=>(KH G).bind λc=>(IX G).bind λe=>BT ⟨k,c,e⟩
end
def SmW(l:List Nat):Prop:=(∀w∈l,w<4294967296)/\l.length<4611686018427387904
structure QB(q:RQ):Prop where
 n:SmW q.l
 d:SmW q.l'
def Oct{E:Type}[Inhabited E](D:E->Prop)(f:Nat->E):Prop:=(∀i,i<8->D (f i))/\∀i,8<=i->f i=default
structure TB(t:RTm):Prop where
 n:SmW t.l
 d:SmW t.l'
 m:Oct (λz=>0<=z/\z<=65535) t.m
def LB{E:Type}(D:E->Prop)(l:List E):Prop:=(∀x∈l,D x)/\l.length<9223372036854775808
abbrev PoB:List RTm->Prop:=LB TB
abbrev PsB:List (List RTm)->Prop:=LB PoB
abbrev TaB:List (List (List RTm))->Prop:=LB PsB
def IB(z:Int):Prop:=-2305843009213693952<=z/\z<=2305843009213693952
abbrev OrB:List (Nat->Int)->Prop:=LB (Oct IB)
abbrev UnB:List RQ->Prop:=LB QB
def VB(a:RQ×RQ):Prop:=QB a.1/\QB a.2
abbrev BoB:List (Nat->RQ×RQ)->Prop:=LB (Oct VB)
def A5W(s:RQ×List RTm):Prop:=QB s.1/\PoB s.2
structure CoB(k:Cor):Prop where
 n:IB k.n
 e:PsB k.e
 f:PsB k.f
structure ClB(c:Clm):Prop where
 kind:IB c.kind
 p:PoB c.p
 n:IB c.n
 d:IB c.d
 r:IB c.r
 o:OrB c.o
 l:PsB c.l
 s:LB IB c.s
 b:BoB c.b
structure RsB(r:Rsl):Prop where
 l:Oct IB r.l
 q:UnB r.q
 r:Oct UnB r.r
structure CrB(e:Crt):Prop where
 n:IB e.n
 cof:PsB e.cof
 g:PsB e.g
 o:OrB e.o
 c:TaB e.c
 q:TaB e.q
 s:TaB e.s
 r:RsB e.r
 a:LB VB e.a
 sq:LB A5W e.sq
 x:LB (Oct QB) e.x
 b:BoB e.b
structure FB(f:Fct):Prop where
 k:CoB f.k
 c:ClB f.c
 e:CrB f.e
theorem GT(n:Nat):0<(Bl n).length:=by
 rw[Bl];split<;>simp
section
variable {G:Lg} (hG:LgOk G)
include hG
theorem FP{e:j->List Nat}(h:RT vN e um)(g:∀x,um x->0<(e x).length):RT (Ff G vN) (Bk e) (LB um):=λl ⟨L,u⟩ b=>by
 rw[Ff,Bk,List.append_assoc,AU hG.nat _ u];have:=CL (e:=e) (l:=l) λx C=>g x (L x C);rw[Rd.bind,Jm,if_pos (decide_eq_true Zdd)];exact NC h l L b
theorem A0X(L:SmW l)(r:List Nat):OX G (Gq p l++r)=some ((p,l),r):=by
 have u:RT Ja Cj λw=>w<4294967296:=λw u p=>by
  show some (w/16777216%256*16777216+w/65536%256*65536+w/256%256*256+w%256,p)=some (w,p);congr 2;omega
 have R:(l.flatMap Cj).length=4*l.length:=by
  clear L
  induction l with
  |nil=>rfl
  |cons w l n=>rw[List.flatMap_cons,List.length_append,n,List.length_cons];show 4+_=_;omega
 have A:2*l.length+(if p=true then 1 else 0)<9223372036854775808:=by
  have:=L.2;split<;>omega
 have I:(2*l.length+(if p=true then 1 else 0))/2=l.length:=by split<;>omega
 have V:decide ((2*l.length+(if p=true then 1 else 0))%2=1)=p:=by
  cases p
  .exact decide_eq_false ZbK
  .exact decide_eq_true Zcm
 rw[OX,Gq,List.append_assoc,AU hG.nat _ A,I,V,Rd.bind,Jm,if_pos (decide_eq_true (by rw[List.length_append,R];omega))]
 dsimp only
 rw[Rd.bind,NC u l L.1 r];rfl
theorem Ma:RT (Fw G) Cv QB:=λq z b=>by
 rw[Fw,Cv,List.append_assoc,Rd.bind,A0X hG z.n]
 dsimp only
 rw[Rd.bind,A0X hG z.d];rfl
omit hG in
theorem Mf[Inhabited j]{e:j->List Nat}(h:RT vN e um):RT (KB vN) (KC e) (Oct um):=λf ⟨p,g⟩ b=>by
 have u:KC e f=((List.range 8).map f).flatMap e:=by rw[List.flatMap_map];rfl
 have A:=NC h ((List.range 8).map f) (λx C=>by
  obtain⟨i,K,rfl⟩:=List.mem_map.1 C;exact p i (List.mem_range.1 K)) b
 rw[List.length_map,List.length_range]at A;rw[KB,u,Rd.bind,A]
 dsimp only
 rw[BT];congr 2;funext i;by_cases K:i<8
 .rw [List.getD_eq_getElem?_getD,List.getElem?_map,List.getElem?_range K];rfl
 .rw [g i Zbx,List.getD_eq_getElem?_getD,List.getElem?_eq_none ZgC];rfl
theorem A4x:RT (Pf G) (λz=>Bl (u64 z)) λz=>0<=z/\z<=65535:=λz ⟨g,u⟩ b=>by
 have M:((u64 z:Nat):Int)=z:=by
  unfold u64;omega
 rw[Pf,AU hG.nat _ (show u64 z<9223372036854775808 by omega),if_pos (hG.ex _ Zbx),M]
theorem A2g:RT (HO G) Eq TB:=λt M b=>by
 rw[HO,Eq,List.append_assoc];have u:Gq t.b t.l++Gq t.b' t.l'=Cv ⟨t.b,t.l,t.b',t.l'⟩:=rfl;rw[u,AU (Ma hG) _ (x:=⟨t.b,t.l,t.b',t.l'⟩) ⟨M.n,M.d⟩,AU (Mf (A4x hG)) _ M.m];rfl
theorem Iz:RT (Hr G) Bc IB:=λz ⟨g,u⟩ b=>by
 rw[Hr,Bc,AU hG.nat _ (show TN z<9223372036854775808 by unfold TN;split<;>omega),BT];congr 2;unfold TN;split<;>split<;>omega
end
theorem HB(h:0<l.length):0<(l++f).length:=by rw[List.length_append];omega
theorem Id(e:j->List Nat)(l:List j):0<(Bk e l).length:=HB (GT _)
theorem XO(b:Bool)(l:List Nat):0<(Gq b l).length:=HB (GT _)
theorem Hx(q:RQ):0<(Cv q).length:=HB (XO _ _)
theorem Ob(t:RTm):0<(Eq t).length:=HB (HB (XO _ _))
theorem JL(z:Int):0<(Bc z).length:=GT _
theorem Gz{e:j->List Nat}(h:∀x,0<(e x).length)(f:Nat->j):0<(KC e f).length:=by
 have d:KC e f=e (f 0)++((List.range' 1 7).flatMap λi=>e (f i)):=by rw[KC,List.range_eq_range'];rfl
 rw[d];exact HB (h _)
theorem Mm(a:RQ×RQ):0<(FH a).length:=HB (Hx _)
theorem Vo(s:RQ×List RTm):0<(IZ s).length:=HB (Hx _)
section
variable {G:Lg} (hG:LgOk G)
include hG
theorem Sb:RT (Gv G) Co PoB:=FP hG (A2g hG) λ_ _=>Ob _
theorem HX:RT (DZ G) AQ PsB:=FP hG (Sb hG) λ_ _=>Id _ _
theorem Oe:RT (LX G) Bs TaB:=FP hG (HX hG) λ_ _=>Id _ _
theorem TF:RT (Me G) Cc OrB:=FP hG (Mf (Iz hG)) λ_ _=>Gz JL _
theorem A0b:RT (RK G) Ft UnB:=FP hG (Ma hG) λ_ _=>Hx _
theorem A3I:RT (Sr G) FH VB:=λa h b=>by
 rw[Sr,FH,List.append_assoc,AU (Ma hG) _ h.1,AU (Ma hG) _ h.2];rfl
theorem Uw:RT (Mp G) EB BoB:=FP hG (Mf (A3I hG)) λ_ _=>Gz Mm _
theorem A5w:RT (YC G) IZ A5W:=λa h b=>by
 rw[YC,IZ,List.append_assoc,AU (Ma hG) _ h.1,AU (Sb hG) _ h.2];rfl
theorem A4G:RT (Uo G) FA CoB:=λk h b=>by
 rw[Uo,FA,List.append_assoc,List.append_assoc,AU (Iz hG) _ h.n,AU (HX hG) _ h.e,AU (HX hG) _ h.f];rfl
theorem A4J:RT (KH G) IH ClB:=λc h b=>by
 rw[KH,IH];simp only[List.append_assoc];rw[AU (Iz hG) _ h.kind,AU (Sb hG) _ h.p,AU (Iz hG) _ h.n,AU (Iz hG) _ h.d,AU (Iz hG) _ h.r,AU (TF hG) _ h.o,AU (HX hG) _ h.l,AU (FP hG (Iz hG) λ_ _=>JL _) _ h.s,AU (Uw hG) _ h.b];rfl
theorem A42:RT (Tt G) Je RsB:=λr h b=>by
 rw[Tt,Je,List.append_assoc,List.append_assoc,AU (Mf (Iz hG)) _ h.l,AU (A0b hG) _ h.q,AU (Mf (A0b hG)) _ h.r];rfl
theorem A4E:RT (IX G) KG CrB:=λe h b=>by
 rw[IX,KG];simp only[List.append_assoc];rw[AU (Iz hG) _ h.n,AU (HX hG) _ h.cof,AU (HX hG) _ h.g,AU (TF hG) _ h.o,AU (Oe hG) _ h.c,AU (Oe hG) _ h.q,AU (Oe hG) _ h.s,AU (A42 hG) _ h.r,AU (FP hG (A3I hG) λ_ _=>Mm _) _ h.a,AU (FP hG (A5w hG) λ_ _=>Vo _) _ h.sq,AU (FP hG (Mf (Ma hG)) λ_ _=>Gz Hx _) _ h.x,AU (Uw hG) _ h.b];rfl
theorem A4v:RT (Pc G) Fz FB:=λf h b=>by
 rw[Pc,Fz,List.append_assoc,List.append_assoc,AU (A4G hG) _ h.k,AU (A4J hG) _ h.c,AU (A4E hG) _ h.e];rfl
end
def pG:Lg:=⟨Ns,λn=>decide (n<=65535)⟩
theorem A5G:LgOk pG:=⟨λx C b=>A2G x (Nat.lt_trans C ZbA) b,λn h=>decide_eq_true h⟩
def Ey(lost:List Nat):Nat->List Value->List (Value×AV)
 |_,[]=>[]
 |i,v::F=>bif lost.contains i then Ey lost (i+1) F else(v,.own i)::Ey lost (i+1) F
theorem Mc(lost:List Nat)(i:Nat)(v:Value)(vs:List Value):Ey lost i (v::vs)=if i∈lost then Ey lost (i+1) vs else(v,.own i)::Ey lost (i+1) vs:=by
 show(bif lost.contains i then Ey lost (i+1) vs else(v,.own i)::Ey lost (i+1) vs)=_;by_cases h:i∈lost
 .rw [if_pos h,List.contains_iff_mem.2 h];rfl
 .have : lost.contains i = false := by cases E : lost.contains i with
   |true=>exact absurd (List.contains_iff_mem.1 E) h
   |false=>rfl
  rw[if_neg h,this];rfl
theorem Jg{x:List Nat}:∀{F:List Value} {i:Nat} {p:Value×AV},p∈Ey x i F->∃k,k<F.length/\p=(F.getD k undef,.own (i+k))
 |[],i,p,h=>by cases h
 |v::F,i,p,h=>by
  rw[Mc]at h
  have key:p∈Ey x (i+1) F->∃k,k<(v::F).length/\p=((v::F).getD k undef,.own (i+k)):=λh=>by
   obtain⟨k,u,A⟩:=Jg h;exact⟨k+1,by simpa using u,by rw[A,show i+1+k=i+(k+1)by omega];rfl⟩
  split at h
  .exact key h
  .rcases List.mem_cons.1 h with rfl | h
   .exact ⟨0,by simp,rfl⟩
   .exact key h
theorem OB{lost:List Nat}:∀{vs:List Value} {i k:Nat},k<vs.length->i+k∉lost->(vs.getD k undef,AV.own (i+k))∈Ey lost i vs
 | [],i,k,h,_=>by simp at h
 | v::vs,i,0,h,hl=>by
  rw [Mc,if_neg (by simpa using hl)]
  exact List.mem_cons_self
 | v::vs,i,k+1,h,hl=>by
  have:=OB (lost:=lost) (vs:=vs) (i:=i+1) (k:=k) (by simpa using h) (by rwa [show i+1+k=i+(k+1) by omega])
  rw [show i+1+k=i+(k+1) by omega] at this
  rw [Mc]
  split
  .exact this
  .exact List.mem_cons_of_mem _ this
def GU(s:GS)(S:Nat->Value)(F:List Ow)(b:Nat):Prop:=∃i o,F[i]? = some o/\OwB s (S i) o b
def Sep(s:GS)(S:Nat->Value)(F:List Ow):Prop:=∀i j o k,i≠j->F[i]? = some o->F[j]? = some k->∀b,OwB s (S i) o b->¬OwB s (S j) k b
structure Aft(s:GS)(ρ:Nat->Value)(hp:List Ow)(lost:List Nat)(s':GS)(ρ':Nat->Value)(hp':List Ow):Prop where
 le:GS.LeX (GU s ρ hp) s s'
 ok:s'.Ok
 mem:HpOk 0 ρ' s' hp'
 sep:Sep s' ρ' hp'
 own:∀i o b,hp'[i]? = some o->OwB s' (ρ' i) o b->GU s ρ hp b\/s.w.heap.size<=b
 kp:∀i,i<hp.length->i∉lost->ρ' i=ρ i
 len:hp.length<=hp'.length
def Con(P:Program)(f:FuncId)(args:List AV)(F:List Ow)(x:List Nat)(Q:AV->List Ow->Prop):Prop:=
 (∀args w,(callFunc f args).run P w=.ok (.enter f args) w)/\∀(s:GS) (S:Nat->Value) (A:List Value),s.Ok->HpOk 0 S s F->Sep s S F->A.length=args.length->(∀(k:Nat) av,args[k]? = some av->AVr F.length S s av (A.getD k undef)) ->
  Calls P f A.toArray s.w λe O=>∃v,e=.returned v/\∃(c:GS) (H:Nat->Value) (r:AV) (u:List Ow),Q r u/\c.w=O/\AVr u.length H c r v/\Aft s S F x c H u
theorem Con.mono{f:FuncId}{lost:List Nat}{Q E:AV->List Ow->Prop}(h:Con P f o H lost Q)(z:∀r B,Q r B->E r B):Con P f o H lost E:=
 ⟨h.1,λs S F u A I V m=>(h.2 s S F u A I V m).mono λe O ⟨v,a,c,C,r,B,Y,y⟩=>⟨v,a,c,C,r,B,z r B Y,y⟩⟩
def Hy:Nat->List AV->List (Nat×AV)
 |_,[]=>[]
 |i,d::R=>(i,d)::Hy (i+1) R
theorem Iy:∀{R:List AV} {i t:Nat} {H:AV},BR (Hy i R) t=some H->i<=t/\R[t-i]? = some H
 |[],i,t,H,h=>by cases h
 |d::R,i,t,H,h=>by
  unfold Hy at h;rw[Cx]at h;split at h
  .rename_i e
   subst e;cases h;exact⟨Nat.le_refl _,by simp⟩
  .rename_i e
   obtain⟨u,A⟩:=Iy h;refine⟨by omega,?_⟩;rw[show t-i=(t-(i+1))+1 by omega];simpa using A
structure RetsA(P:Program)(σ:AS)(rs:Array ResultVar)(r:AV):Prop where
 run:∀(base:Nat) (ρ:Nat->Value) (s:GS) (tmps:Array Value) (fn:Func),fn.results=rs->HpOk base ρ s σ.hp->(∀t av,BR σ.fr t=some av->AVr σ.hp.length ρ s av (tmps.getD t undef))->∃v,(results fn tmps).run P s.w=.ok v s.w/\AVr σ.hp.length ρ s r v
theorem RetsA.d{σ:AS}{rs:Array ResultVar}(h:Rets P σ rs r):RetsA P σ rs (.d r):=⟨h.run⟩
theorem RetsA.one{r:AV}(h:BR vc.fr n=some r):RetsA P vc #[.tmp n] r:=⟨λ_ _ _ d _ p _ L=>⟨_,QO p (rv:=.tmp n) rfl,L n r h⟩⟩
theorem RetsA.none{σ:AS}:RetsA P σ #[] (.d Cw):=⟨λ_ _ s d R p _ _=>⟨.tuple #[],by unfold results;rw[p];simp,trivial⟩⟩
structure FinC(P:Program)(fn:Func)(lost:List Nat)(vs:List Value)(Q:AV->List Ow->Prop)(e:Exit)(σ:AS):Prop where
 how:e=.ret\/e=.normal
 res:∃r hp',RetsA P σ fn.results r/\hp'=σ.hp.set vs.length .dead/\Q r hp'
 pin:σ.hp[vs.length]? = some (.pin (Ey lost 0 vs))
theorem PY{f:FuncId}(R:P.funcs[f]? = some vK)(E:vK.body=some vn)(xf:∀o w,(callFunc f o).run P w=.ok (.enter f o) w)(G:Nat.ble o.length vK.ntmps=true)
  (h:∀(Z:An) (d:List Value),d.length=H.length->AWp P Z vK.ntmps vn (FinC P vK l d vt) ⟨Hy 0 o,H++[.pin (Ey l 0 d)]⟩):Con P f o H l vt:=by
 refine⟨xf,λs S d T y xh L Q=>calls_of_wp R E ?_⟩;have x:o.length<=vK.ntmps:=by simpa[Nat.ble_eq]using G
 have xc:((List.range H.length).map S).length=H.length:=by simp
 have n:(H++[Ow.pin (Ey l 0 ((List.range H.length).map S))]).length=H.length+1:=by simp
 have xb:∀i A,(H++[Ow.pin (Ey l 0 ((List.range H.length).map S))])[i]? = some A->H[i]? = some A\/A=Ow.pin (Ey l 0 ((List.range H.length).map S)):=λi A K=>ZaK
 have GX:∀k,k<H.length->((List.range H.length).map S).getD k undef=S k:=λk C=>by
  exact Zgh
 refine wp_mono ((h ⟨s,GU s S H,[]⟩ ((List.range H.length).map S) xc).run { tmps:=d.toArray++Array.replicate (vK.ntmps-d.toArray.size) undef,defers:=[] } s.w ⟨s,S,rfl,GS.LeX.refl _ s,T,λt Y M=>?_,by simp;omega,rfl,λi A K=>?_,λi j A O xa K N b xd xj=>?_,λi A b K xd=>?_⟩) ?_
 .obtain ⟨_,B⟩:=Iy M
  rw[Nat.sub_zero]at B;have I:t<o.length:=(List.getElem?_eq_some_iff.1 B).1;have V:=Q t Y B
  have:(d.toArray++Array.replicate (vK.ntmps-d.toArray.size) undef).getD t undef=d.getD t undef:=by
   exact ZeV
  show AVr (H++[Ow.pin _]).length S s Y ((d.toArray++Array.replicate (vK.ntmps-d.toArray.size) undef).getD t undef);rw[this,n];exact V.mono (Nat.le_succ _) λ_ _=>rfl
 .show OwR 0 (H++[Ow.pin _]).length S s i A
  rw[n];rcases xb i A K with u | rfl
  .exact (y i A u).mono (Nat.le_succ _) (λ_ _=>rfl) (BV u)
  .intro p W
   obtain⟨k,u,rfl⟩:=Jg W;rw[xc]at u;rw[Nat.zero_add];exact⟨by omega,GX k u⟩
 .rcases xb i A K with u | rfl
  .rcases xb j O N with B | rfl
   .exact xh i j A O xa u B b xd xj
   .exact xj.elim
  .exact xd.elim
 .rcases xb i A K with u | rfl
  .exact .inl ⟨i,A,u,xd⟩
  .exact xd.elim
 .intro e a w ⟨τ,⟨F,⟨r,W,J,xl,z⟩,xk⟩,c,q,m,X⟩
  subst m;subst xl;rw[xc]at xk z;obtain⟨v,u,B⟩:=J.run _ q c a.tmps vK rfl X.hp X.fr
  have g:∀i A,(τ.hp.set H.length .dead)[i]? = some A->A=Ow.dead\/τ.hp[i]? = some A:=λi A K=>ZaL
  have U:Aft s S H l c q (τ.hp.set H.length .dead):=by
   refine⟨X.le,X.ok,λi A K=>?_,λi j A O xa K N b xd xj=>?_,λi A b K xd=>?_,λi K xi=>?_,?_⟩
   .rw [List.length_set]
    rcases g i A K with rfl | I
    .trivial
    .exact X.hp i A I
   .rcases g i A K with rfl | I
    .exact xd.elim
    .rcases g j O N with rfl | V
     .exact xj.elim
     .exact X.sep i j A O xa I V b xd xj
   .rcases g i A K with rfl | I
    .exact xd.elim
    .exact X.own i A b I xd
   .have I:=X.hp _ _ xk _ (OB (i:=0) (k:=i) (by rw [xc]; exact K) (by rw [Nat.zero_add]; exact xi))
    rw[GX i K,Nat.zero_add]at I;exact I.2.symm
   .rw [List.length_set]
    exact Nat.le_of_lt (BV xk)
  have xg:AVr (τ.hp.set H.length .dead).length q c r v:=by rw[List.length_set];exact B
  rcases F with rfl | rfl
  .exact ⟨X.df,v,u,v,rfl,c,q,r,_,z,rfl,xg,U⟩
  .exact ⟨X.df,v,u,v,rfl,c,q,r,_,z,rfl,xg,U⟩
section
variable {P:Program} {f:FuncId} {fn:Func} {c:Code} {args:List AV} {Q:AV->List Ow->Prop} (hf:P.funcs[f]? = some fn) (hb:fn.body=some c) (hcf:∀args w,(callFunc f args).run P w=.ok (.enter f args) w) (hn:Nat.ble args.length fn.ntmps=true)
include hf hb hcf hn
end
theorem Be{r:AV}(h:RetsA P vc vK.results r)(b:Fu vc.hp ub.length .dead=some H)(Y:vt r H)(F:vc.hp[ub.length]? = some (.pin (Ey l 0 ub))):FinC P vK l ub vt .ret vc:=⟨.inl rfl,⟨r,H,h,(Er b),Y⟩,F⟩
theorem AG{r:AV}(h:RetsA P vc vK.results r)(b:Fu vc.hp ub.length .dead=some H)(Y:vt r H)(F:vc.hp[ub.length]? = some (.pin (Ey l 0 ub))):FinC P vK l ub vt .normal vc:=⟨.inr rfl,⟨r,H,h,(Er b),Y⟩,F⟩
end
end Go.Proofs.YtcikkglcoeedlaaGreat
