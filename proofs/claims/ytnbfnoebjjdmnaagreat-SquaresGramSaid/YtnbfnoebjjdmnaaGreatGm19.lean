/- Part 19 of the proof of squaresGram_holds. No condition. -/
import Derived.Scope
import Derived.Test.YtnbfnoebjjdmnaaGreatGm1
import Derived.Test.YtnbfnoebjjdmnaaGreatGm17
import Derived.Test.YtnbfnoebjjdmnaaGreatGm18
set_option linter.unusedSimpArgs false
set_option linter.unusedVariables false
set_option maxRecDepth 100000
set_option maxHeartbeats 8000000
namespace Go.Proofs.YtnbfnoebjjdmnaaGreat
open Go.RowKit
def A4a(Q:Exit->AS->Prop):Exit->AS->Prop
 | .goto _,_=>False
 | e,σ=>Q e σ
structure ANo(Q:Exit->AS->Prop)(e:Exit)(σ:AS):Prop where
 run:A4a Q e σ
section
variable {P:Program} {s0:An} {n:Nat} {Q:Exit->AS->Prop} {σ:AS}
theorem Oy{c:Code}(h:AWp P s0 n c (ANo Q) σ):AWp P s0 n (.scope c) Q σ:=⟨λa w hs=>wp_scope_straight (wp_mono (h.run a w hs) λe a' w' ⟨σ',⟨h1⟩,h2⟩=>by
 cases e with
 | goto l=>exact h1.elim
 | _=>exact ⟨σ',h1,h2⟩)⟩
theorem Oz{l:Nat}(h:Q .normal σ):AWp P s0 n (.label l) Q σ:=⟨λ_ _ hs=>wp_label ⟨σ,h,hs⟩⟩
theorem ANo.ret(h:Q .ret σ):ANo Q .ret σ:=⟨h⟩
end
theorem UT(p q:Rat)(N M:Nat)(hp:RSz p N)(hq:RSz q M)(hN:N+M<=4398046511104)(h0:q.num≠0):Abs Tryz.prog 72 [BF (Bz p),BF (Bz q)] (CK [BF (Bz (p/q)),ex (.int .i64 0)]):=by
 refine Bh (AG Tryz.func72 (by kernel_rfl) (by kernel_rfl)) λs vs hok hl hv=>?_
 rw [Nb hl]
 obtain ⟨x0,x0',X0,X0',n0,c0,n0',c0',e0,h0'⟩:=Cc (hv 0 (by simp))
 obtain ⟨x1,x1',X1,X1',n1,c1,n1',c1',e1,h1⟩:=Cc (hv 1 (by simp))
 rw [e0,e1]
 exact (A1q x0 x0' X0 X0' n0 c0 n0' c0' x1 x1' X1 X1' n1 c1 n1' c1' p q N M _ h0' h1 hp hq hN h0).mono λe w' ⟨y,y',Y,Y',m,k,m',k',he,hI,hE⟩=>⟨_,he,hE,λs' hw hok' _ _=>by subst hw;exact A0b (EC hok' hI) rfl⟩
theorem A14(p q:Rat)(N M:Nat)(hp:RSz p N)(hq:RSz q M)(hN:N+M+1<=4398046511104):Abs Tryz.prog 73 [BF (Bz p),BF (Bz q)] (BF (Bz (p-q))):=by
 refine Bh (AG Tryz.func73 (by kernel_rfl) (by kernel_rfl)) λs vs hok hl hv=>?_
 rw [Nb hl]
 obtain ⟨x0,x0',X0,X0',n0,c0,n0',c0',e0,h0⟩:=Cc (hv 0 (by simp))
 obtain ⟨x1,x1',X1,X1',n1,c1,n1',c1',e1,h1⟩:=Cc (hv 1 (by simp))
 rw [e0,e1]
 exact (A13 x0 x0' X0 X0' n0 c0 n0' c0' x1 x1' X1 X1' n1 c1 n1' c1' p q N M _ h0 h1 hp hq hN).mono λe w' ⟨y,y',Y,Y',m,k,m',k',he,hI,hE⟩=>⟨_,he,hE,λs' hw hok' _ _=>by subst hw;exact EC hok' hI⟩
theorem WT(p:Rat):Abs Tryz.prog 68 [BF (Bz p)] (BF (Bz (-p))):=by
 refine Bh (AG Tryz.func68 (by kernel_rfl) (by kernel_rfl)) λs vs hok hl hv=>?_
 rw [vs1 hl]
 obtain ⟨x0,x0',X0,X0',n0,c0,n0',c0',e0,h0⟩:=Cc (hv 0 (by simp))
 rw [e0]
 exact (ZD x0 x0' X0 X0' n0 c0 n0' c0' p _ h0).mono λe w' ⟨y,y',Y,Y',m,k,m',k',he,hI,hE⟩=>⟨_,he,hE,λs' hw hok' _ _=>by subst hw;exact EC hok' hI⟩
theorem LT(p q:Rat):Rat.divInt (p.num*(q.den:Int)) ((p.den:Int)*q.num)=p/q:=by
 rw [Rat.div_def,Rat.inv_def,<-Rat.divInt_mul_divInt,Rat.num_divInt_den]
theorem WU(p q:Rat)(N M:Nat)(hp:RSz p N)(hq:RSz q M)(hN:N+M<=4398046511103)(h0:q.num≠0):Abs Tryz.prog 66 [BF (Bz p),BF (Bz q)] (CK [BF (Bz (p/q)),ex (.int .i64 0)]):=by
 have l1:(Am (p.num*(q.den:Int)).natAbs).length<=4398046511103:=Nat.le_trans (BZ hp.1 hq.2) hN
 have l2:(Am ((p.den:Int)*q.num).natAbs).length<=4398046511103:=Nat.le_trans (BZ hp.2 hq.1) hN
 have hd:(p.den:Int)*q.num≠0:=λe=>by
  rcases Int.mul_eq_zero.1 e with h | h
  .exact p.den_nz (by omega)
  .exact h0 h
 refine Ab Tryz.func66 λs0=>?_
 rw [Tryz.ntmps66]
 apply Y1;refine Bx ?_;refine Bx ?_;refine Al ?_;refine Wa<|Y0<|Aa ?_
 refine Dr [[],[(6,0)],[],[(8,2)],[(7,1),(9,3)],[],[(11,5)],[],[(13,7)],[(12,6),(14,8)],[(10,4),(15,9)],[(16,10)],[(16,10)]] [[],[0],[],[2],[0,1,2,3],[],[5],[],[7],[0,1,2,3,4,5,6,7,8],[0,1,2,3,4,5,6,7,8,9],[0,1,2,3,4,5,6,7,8,9,10],[0,1,2,3,4,5,6,7,8,9,10]] ?_
 refine Xq Aq ?_;refine Xq Ar ?_;refine Xq Aq ?_;refine Xq Ar ?_;refine Xq (Af (DX p.num (q.den:Int) (Nat.le_trans hp.1 (by omega)) (Nat.le_trans hq.2 (by omega)))) ?_;refine Xq Aq ?_;refine Xq Ar ?_;refine Xq Aq ?_;refine Xq Ar ?_;refine Xq (Af (DX (p.den:Int) q.num (Nat.le_trans hp.2 (by omega)) (Nat.le_trans hq.1 (by omega)))) ?_;refine Xq (Af (ZC (p.num*(q.den:Int)) ((p.den:Int)*q.num) l1 l2 hd)) ?_;refine Xq Bd ?_;refine Xq Bd ?_;refine ⟨_,rfl,?_⟩
 refine Sf ?_;refine Wa<|Y0<|At ?_
 exact Bf (BV (ResV.cell rfl rfl (Ad rfl) rfl rfl rfl) (ResV.tmp rfl rfl) (BM (Be (by rw [LT];rfl)) (D.le.refl _)))
open Classical in
theorem Qy(q:Rat)(N:Nat)(h:RSz q N)(hN:N<=1000000000):Abs Tryz.prog 69 [BF (Bz q)] (ex (.bool true)):=by
 have hq:TB (decide (q.num<0)) (Am q.num.natAbs) (decide ((q.den:Int)<0)) (Am (q.den:Int).natAbs):=⟨q,rfl,rfl,rfl,rfl⟩
 have:=SC (decide (q.num<0)) (Am q.num.natAbs) (decide ((q.den:Int)<0)) (Am (q.den:Int).natAbs) (Bk _) (Bk _) (Nat.le_trans h.1 hN) (Nat.le_trans h.2 hN)
 rw [decide_eq_true hq] at this
 exact this
structure Sq where
 a:Rat
 p:List Tm
instance:Inhabited Sq:=⟨⟨0,[]⟩⟩
def sqC(s:Sq):List D:=Bz s.a++[Bp s.p]
def Iz(L:List Sq):D:=slD 46 5 (L.map sqC)
def Ng(L:List Sq)(k:Nat):Sq:=L.getD k default
theorem Jj{L:List Sq}{k:Nat}(h:k<L.length):Ng L k∈L:=by
 unfold Ng
 rw [List.getD_eq_getElem?_getD,List.getElem?_eq_getElem h]
 exact List.getElem_mem _
theorem NX{α:Type}(f:α->Sq->α)(b:α){L:List Sq}{k:Nat}(h:k<L.length):(L.take (k+1)).foldl f b=f ((L.take k).foldl f b) (Ng L k):=by
 rw [List.take_succ_eq_append_getElem h,List.foldl_append]
 simp [Ng,List.getD_eq_getElem?_getD,List.getElem?_eq_getElem h]
def SqB(L:List Sq)(n N K:Nat)(d:Int):Prop:=∀s∈L,PB s.p n N d/\RSz s.a K
theorem NE(L:List Sq)(hn:L.length<=100000)(h:∀k,k<L.length->0<=(Ng L k).a.num.sign):Abs Tryz.prog 26 [Iz L] (ex (.bool true)):=by
 refine Ab Tryz.func26 λs0=>?_
 rw [Tryz.ntmps26]
 refine Y1<|Wa<|Y0<|Aa<|Y1<|Wm ?_;refine Wq AN ?_;refine Wm<|Y0<|AWp.block ?_
 refine AQ (λmz σ=>∃k,k<=L.length/\mz=L.length-k/\σ=⟨[(5,.d (Iz L)),(6,.d (ex (.int .i64 (L.length:Nat)))),(7,.d (ex (.int .i64 (k:Nat))))],[]⟩) ?le ⟨0,by omega,rfl,rfl⟩ ?round
 case le=>exact Ak (by exact Yd<|Yd<|Yd<|FrLe.nil) (by exact HpLe.nil)
 case round=>
  rintro mz _ ⟨k,hk,rfl,rfl⟩
  by_cases hlt:k<L.length
  .have hk2:=h k hlt
   apply Y1;refine Wq Ai ?_;refine Y0<|Aa<|Ct<|Ys<|Aa<|AWp.block<|Y1 ?_;refine Wq AC ?_;refine Wq As ?_;refine Al ?_;refine Sf ?_;refine Y0<|Y1 ?_;refine Wq Aq ?_;refine Wq Ar ?_;refine Wq (Af (BU (Ng L k).a)) ?_;refine Wq Aj ?_;refine Y0<|Cf<|Bw<|Ah<|Yn<|AWp.region ?_;refine Wq AH ?_;refine Wm<|AWl.nil ?_
   refine ALoop.next (L.length-(k+1)) (by omega) ⟨k+1,by omega,rfl,rfl⟩ ?_
   exact Ak (by exact Yd<|Yd<|Yd<|FrLe.nil) (by exact HpLe.nil)
  .obtain rfl:k=L.length:=by omega
   apply Y1;refine Wq Aj ?_;refine Y0<|Aa<|Cf<|AP<|AA<|AF<|AB<|Yn<|Y1<|Wa<|Y0<|At ?_
   exact Yf
theorem Vk(L:List Sq)(hn:L.length<=100000)(z:Nat)(hz:z<L.length)(h:∀k,k<z->0<=(Ng L k).a.num.sign)(hneg:(Ng L z).a.num.sign<0):Abs Tryz.prog 26 [Iz L] (ex (.bool false)):=by
 refine Ab Tryz.func26 λs0=>?_
 rw [Tryz.ntmps26]
 refine Y1<|Wa<|Y0<|Aa<|Y1<|Wm ?_;refine Wq AN ?_;refine Wm<|Y0<|AWp.block ?_
 refine AQ (λmz σ=>∃k,k<=z/\mz=z-k/\σ=⟨[(5,.d (Iz L)),(6,.d (ex (.int .i64 (L.length:Nat)))),(7,.d (ex (.int .i64 (k:Nat))))],[]⟩) ?le ⟨0,by omega,rfl,rfl⟩ ?round
 case le=>exact Ak (by exact Yd<|Yd<|Yd<|FrLe.nil) (by exact HpLe.nil)
 case round=>
  rintro mz _ ⟨k,hk,rfl,rfl⟩
  by_cases hlt:k<z
  .have hk2:=h k hlt
   apply Y1;refine Wq Ai ?_;refine Y0<|Aa<|Ct<|Ys<|Aa<|AWp.block<|Y1 ?_;refine Wq AC ?_;refine Wq As ?_;refine Al ?_;refine Sf ?_;refine Y0<|Y1 ?_;refine Wq Aq ?_;refine Wq Ar ?_;refine Wq (Af (BU (Ng L k).a)) ?_;refine Wq Aj ?_;refine Y0<|Cf<|Bw<|Ah<|Yn<|AWp.region ?_;refine Wq AH ?_;refine Wm<|AWl.nil ?_
   refine ALoop.next (z-(k+1)) (by omega) ⟨k+1,by omega,rfl,rfl⟩ ?_
   exact Ak (by exact Yd<|Yd<|Yd<|FrLe.nil) (by exact HpLe.nil)
  .obtain rfl:k=z:=by omega
   apply Y1;refine Wq Ai ?_;refine Y0<|Aa<|Ct<|Ys<|Aa<|AWp.block<|Y1 ?_;refine Wq AC ?_;refine Wq As ?_;refine Al ?_;refine Sf ?_;refine Y0<|Y1 ?_;refine Wq Aq ?_;refine Wq Ar ?_;refine Wq (Af (BU (Ng L k).a)) ?_;refine Wq Ai ?_;refine Y0<|Ct<|Y1<|Wa<|Y0<|At<|Bm<|AL<|CH<|Bm<|AL ?_
   exact Yf
def KW(S:List Tm)(s:Sq):List Tm:=CV S (Eu s.a (Fz s.p s.p))
def Fu(L:List Sq):List Tm:=L.foldl KW []
theorem A1C{s:Sq}{n N K:Nat}{d:Int}(h:PB s.p n N d)(hk:RSz s.a K)(h0:0<=d):PB (Eu s.a (Fz s.p s.p)) (n*n) (K+n*(N+N+1)) (d+d):=Jh (h.mul h h0 h0) hk
theorem JN{L:List Sq}{n N K:Nat}{d:Int}(h:SqB L n N K d)(h0:0<=d):∀k,k<=L.length->PB (Fu (L.take k)) (k*(n*n)) (k*(K+n*(N+N+1)+1)) (d+d)
 | 0,_=>PB.nil
 | k+1,hk=>by
  have ih:=JN h h0 k (by omega)
  have hs:=h _ (Jj (show k<L.length by omega))
  have h1:=ih.add (A1C hs.1 hs.2 h0)
  have e:Fu (L.take (k+1))=KW (Fu (L.take k)) (Ng L k):=NX KW [] (by omega)
  rw [e]
  exact h1.mono (by rw [Nat.succ_mul];exact Nat.le_refl _) (by rw [Nat.succ_mul];omega) (by omega)
theorem XJ{L:List Sq}{k:Nat}(h:k<L.length):Fu (L.take (k+1))=KW (Fu (L.take k)) (Ng L k):=NX KW [] h
theorem XK(S:List Tm)(s:Sq)(n N K n' N':Nat)(d d':Int)(hS:PB S n' N' d')(hp:PB s.p n N d)(ha:RSz s.a K)(h0:0<=d)(hd:d+d<=65535)(hn:n*n<=100000)(hn':n'+n*n<=100000)(hN:N+N+1<=10000000)(hK:n*(N+N+1)+K+N'+1<=4398046511103):Abs Tryz.prog 46 [Bp S,BF (sqC s)] (CK [Bp (KW S s),ex (.int .i64 0)]):=by
 have hm:=hp.mul hp h0 h0
 have hml:=hm.len
 have hsq:=A1C hp ha h0
 by_cases hz:s.a=0
 .have e:KW S s=CV S []:=by rw [KW, Eu, if_pos hz]
  have hnil:PB ([]:List Tm) 0 0 0:=PB.nil
  refine Ab Tryz.func46 λs0=>?_
  rw [Tryz.ntmps46]
  apply Y1;refine Bx ?_;refine Wa<|Wa<|Y0<|Y1 ?_;refine Wq Aq ?_;refine Wq AI ?_;refine Wq Aq ?_;refine Wq AI ?_;refine Wq (Af (PV hp hp h0 h0 hd hn hN)) ?_;refine Wm ?_;refine Wq Bd ?_;refine Wq Bd ?_;refine Wa<|Wa<|Y0<|Aa<|Y1<|Wm ?_;refine Wq Aj ?_;refine Y0<|Cf<|Ys<|Y1 ?_;refine Wq Aq ?_;refine Wq Ar ?_;(refine Cr rfl rfl ?_;(refine FM (Ad rfl) (Ad rfl) rfl rfl ?_;(repeat ((first | refine ⟨_,AO (ao rfl),?_⟩ | refine ⟨_,Po rfl,?_⟩);refine ⟨_,rfl,?_⟩));refine ⟨_,rfl,?_⟩));refine Wm ?_;refine Wq (Af (RQ s.a (λ_=>0) (Fz s.p s.p) hz)) ?_;refine Wm ?_;refine Wq Bd ?_;refine Wq Bd ?_;refine Wa<|Wa<|Y0<|Y1<|Wm<|Wm ?_;refine Wq (Af (JH hS hnil (by omega) (by omega))) ?_;refine Wm<|Wa<|Wa<|Y0<|At ?_
  exact Bf (BV (ResV.tmp rfl rfl) (ResV.tmp rfl rfl) (BM (Dq e.symm) (D.le.refl _)))
 .have e:KW S s=CV S (Nr s.a (λ_=>0) (Fz s.p s.p)):=by rw [KW, Eu, if_neg hz]
  rw [Eu,if_neg hz] at hsq
  refine Ab Tryz.func46 λs0=>?_
  rw [Tryz.ntmps46]
  apply Y1;refine Bx ?_;refine Wa<|Wa<|Y0<|Y1 ?_;refine Wq Aq ?_;refine Wq AI ?_;refine Wq Aq ?_;refine Wq AI ?_;refine Wq (Af (PV hp hp h0 h0 hd hn hN)) ?_;refine Wm ?_;refine Wq Bd ?_;refine Wq Bd ?_;refine Wa<|Wa<|Y0<|Aa<|Y1<|Wm ?_;refine Wq Aj ?_;refine Y0<|Cf<|Ys<|Y1 ?_;refine Wq Aq ?_;refine Wq Ar ?_;(refine Cr rfl rfl ?_;(refine FM (Ad rfl) (Ad rfl) rfl rfl ?_;(repeat ((first | refine ⟨_,AO (ao rfl),?_⟩ | refine ⟨_,Po rfl,?_⟩);refine ⟨_,rfl,?_⟩));refine ⟨_,rfl,?_⟩));refine Wm ?_;refine Wq (Af (TD s.a (λ_=>0) (Fz s.p s.p) K (n*(N+N+1)) hz ha In8.zero hm.sz (hm.ex.mono (Int.le_refl _) hd) (λt ht=>by rw [HY];exact (hm.ex.mono (Int.le_refl _) hd) t ht) (by omega) (by omega))) ?_;refine Wm ?_;refine Wq Bd ?_;refine Wq Bd ?_;refine Wa<|Wa<|Y0<|Y1<|Wm<|Wm ?_;refine Wq (Af (JH hS hsq (by omega) (by omega))) ?_;refine Wm<|Wa<|Wa<|Y0<|At ?_
  exact Bf (BV (ResV.tmp rfl rfl) (ResV.tmp rfl rfl) (BM (Dq e.symm) (D.le.refl _)))
theorem We(L:List Sq)(n N K:Nat)(d:Int)(h:SqB L n N K d)(h0:0<=d)(hL:L.length<=100)(hd:d+d<=65535)(hn:n<=30)(hN:N<=1000000)(hK:K<=1000000):Abs Tryz.prog 45 [Iz L,ex (.func (.func 46) #[] #[])] (CK [Bp (Fu L),ex (.int .i64 0)]):=by
 have hnn:n*n<=30*30:=Nat.mul_le_mul hn hn
 have hnN:n*(N+N+1)<=30*2000001:=Nat.mul_le_mul hn (by omega)
 refine Ab Tryz.func45 λs0=>?_
 rw [Tryz.ntmps45]
 refine Y1<|Wa<|Wa<|Y0 ?_;apply Oy;refine Y1<|Wa<|Y0<|Y1<|Wa<|Y0<|Aa ?_;apply Oz;refine Yn<|Aa<|Y1<|Wm ?_;refine Wq AN ?_;refine Wm<|Y0<|AWp.block ?_
 refine AQ (λmz σ=>∃k,k<=L.length/\mz=L.length-k/\σ=⟨[(1,.d (ex (.func (.func 46) #[] #[]))),(6,.d (Bp (Fu (L.take k)))),(7,.d (ex (.int .i64 0))),(10,.d (Iz L)),(11,.d (ex (.int .i64 (L.length:Nat)))),(12,.d (ex (.int .i64 (k:Nat))))],[]⟩) ?le ⟨0,by omega,rfl,rfl⟩ ?round
 case le=>exact Ak (by exact Yd<|FrLe.cons rfl (AVle.le Fp)<|Yd<|Yd<|Yd<|Yd<|FrLe.nil) (by exact HpLe.nil)
 case round=>
  rintro mz _ ⟨k,hk,rfl,rfl⟩
  by_cases hlt:k<L.length
  .have hm:=Jj hlt
   have hs:=h _ hm
   have hst:=XJ hlt
   have hb:=JN h h0 k (by omega)
   have hkn:k*(n*n)<=100*900:=Nat.mul_le_mul (by omega) (by omega)
   have hkN:k*(K+n*(N+N+1)+1)<=100*70000000:=Nat.mul_le_mul (by omega) (by omega)
   apply Y1;refine Wq Ai ?_;refine Y0<|Aa<|Ct<|Ys<|Aa<|AWp.block<|Y1 ?_;refine Wq AC ?_;refine Wq As ?_;refine Al ?_;refine Sf ?_;refine Y0<|Y1<|Wm<|Wm ?_;refine Wq Ar ?_;refine Wq (Af (XK (Fu (L.take k)) (Ng L k) n N K (k*(n*n)) (k*(K+n*(N+N+1)+1)) d (d+d) hb hs.1 hs.2 h0 hd (by omega) (by omega) (by omega) (by omega))) ?_;refine Wm ?_;refine Wq Bd ?_;refine Wq Bd ?_;refine Wa<|Wa<|Y0<|Y1<|Wm ?_;refine Wq Aj ?_;refine Y0<|Cf<|Bw<|Ah<|Yn<|AWp.region ?_;refine Wq AH ?_;refine Wm<|AWl.nil ?_
   refine ALoop.next (L.length-(k+1)) (by omega) ⟨k+1,by omega,rfl,rfl⟩ ?_
   exact Ak (by exact Yd<|FrLe.cons rfl (AVle.le (Dq hst.symm))<|Yd<|Yd<|Yd<|Yd<|FrLe.nil) (by exact HpLe.nil)
  .obtain rfl:k=L.length:=by omega
   apply Y1;refine Wq Aj ?_;refine Y0<|Aa<|Cf<|AP<|AA<|AF<|AB<|Yn<|Y1<|Wm<|Wm<|Wa<|Wa<|Y0<|At ?_;apply ANo.ret
   exact Bf (BV (ResV.tmp rfl rfl) (ResV.tmp rfl rfl) (BM (Dq (by rw [List.take_length])) (D.le.refl _)))
theorem LK(L:List Sq)(n N K:Nat)(d:Int)(h:SqB L n N K d)(h0:0<=d)(hL:L.length<=100)(hd:d+d<=65535)(hn:n<=30)(hN:N<=1000000)(hK:K<=1000000):Abs Tryz.prog 13 [Iz L] (CK [Bp (Fu L),ex (.int .i64 0)]):=by
 refine Ab Tryz.func13 λs0=>?_
 rw [Tryz.ntmps13]
 refine Y1<|Wa<|Wa<|Y0<|Y1<|Wm ?_;refine Wq (Af (We L n N K d h h0 hL hd hn hN hK)) ?_;refine Wq Bd ?_;refine Wq Bd ?_;refine Wa<|Wa<|Y0<|At ?_
 exact Bf (BV (ResV.tmp rfl rfl) (ResV.tmp rfl rfl) (BM (D.le.refl _) (D.le.refl _)))
theorem MM(L:List Sq)(hL:L.length<=100000):Abs Tryz.prog 25 [Iz L,Iz L] (ex (.bool true)):=by
 refine Ab Tryz.func25 λs0=>?_
 rw [Tryz.ntmps25]
 refine Y1<|Wa<|Y0<|Aa<|Y1<|Wm ?_;refine Wq AN ?_;refine Wm ?_;refine Wq AN ?_;refine Wq Aj ?_;refine Y0<|Cf<|Ys<|Aa<|Y1<|Wa<|Y0<|AWp.block ?_
 refine AQ (λmz σ=>∃k,k<=L.length/\mz=L.length-k/\σ=⟨[(0,.d (Iz L)),(1,.d (Iz L)),(5,.d (ex (.int .i64 (k:Nat))))],[]⟩) ?le ⟨0,by omega,rfl,rfl⟩ ?round
 case le=>exact Ak (by exact Yd<|Yd<|Yd<|FrLe.nil) (by exact HpLe.nil)
 case round=>
  rintro mz _ ⟨k,hk,rfl,rfl⟩
  by_cases hlt:k<L.length
  .refine Aa<|Y1<|Wm<|Wm ?_;refine Wq AN ?_;refine Wq Ai ?_;refine Y0<|Ct<|Ys<|Aa<|AWp.block<|Aa ?_
   refine Dr [[],[],[(17,0),(18,1)],[(19,2)],[(20,3)],[],[],[(22,5),(23,6)],[(24,7)],[(25,8)],[(21,4),(26,9)],[(27,10)],[(28,11)],[],[],[(30,13),(31,14)],[(32,15)],[(33,16)],[],[],[(35,18),(36,19)],[(37,20)],[(38,21)],[(34,17),(39,22)],[(40,23)],[(29,12),(41,24)]] [[],[],[0,1],[0,1,2],[0,1,2,3],[],[],[5,6],[5,6,7],[5,6,7,8],[0,1,2,3,4,5,6,7,8,9],[0,1,2,3,4,5,6,7,8,9,10],[0,1,2,3,4,5,6,7,8,9,10,11],[0,1,2,3,4,5,6,7,8,9,10,11,12],[0,1,2,3,4,5,6,7,8,9,10,11,12],[0,1,2,3,4,5,6,7,8,9,10,11,12,13,14],[0,1,2,3,4,5,6,7,8,9,10,11,12,13,14,15],[0,1,2,3,4,5,6,7,8,9,10,11,12,13,14,15,16],[0,1,2,3,4,5,6,7,8,9,10,11,12],[0,1,2,3,4,5,6,7,8,9,10,11,12],[0,1,2,3,4,5,6,7,8,9,10,11,12,18,19],[0,1,2,3,4,5,6,7,8,9,10,11,12,18,19,20],[0,1,2,3,4,5,6,7,8,9,10,11,12,18,19,20,21],[0,1,2,3,4,5,6,7,8,9,10,11,12,13,14,15,16,17,18,19,20,21,22],[0,1,2,3,4,5,6,7,8,9,10,11,12,13,14,15,16,17,18,19,20,21,22,23],[0,1,2,3,4,5,6,7,8,9,10,11,12,13,14,15,16,17,18,19,20,21,22,23,24]] ?_
   refine Xq Ae ?_;refine Xq Ae ?_;refine Xq AC ?_;refine Xq Bc ?_;refine Xq CP ?_;refine Xq Ae ?_;refine Xq Ae ?_;refine Xq AC ?_;refine Xq Bc ?_;refine Xq CP ?_;refine Xq (Af (KM (rfl:(Ng L k).a=(Ng L k).a))) ?_;refine Xq Bl ?_;refine Xq Ae ?_;refine Xg Ae ?_;refine Xg Ae ?_;refine Xg AC ?_;refine Xg Bc ?_;refine Xg BG ?_;refine Xg Ae ?_;refine Xg Ae ?_;refine Xg AC ?_;refine Xg Bc ?_;refine Xg BG ?_;refine Xg (Af (MR (SameL.refl (Ng L k).p))) ?_;refine Xg Bl ?_;refine Xq Az ?_;refine ⟨_,rfl,?_⟩
   refine Y0<|Cf<|Bw<|Ah<|Yn<|AWp.region<|Wm ?_;refine Wq AH ?_;refine Wa<|AWl.nil ?_
   refine ALoop.next (L.length-(k+1)) (by omega) ⟨k+1,by omega,rfl,rfl⟩ ?_
   exact Ak (by exact Yd<|Yd<|Yd<|FrLe.nil) (by exact HpLe.nil)
  .obtain rfl:k=L.length:=by omega
   refine Aa<|Y1<|Wm<|Wm ?_;refine Wq AN ?_;refine Wq Aj ?_;refine Y0<|Cf<|AP<|AA<|AF<|AB<|Yn<|Y1<|Wa<|Y0<|At ?_
   exact Yf
section
variable {P:Program} {s0:An} {n:Nat} {ops:Array Oper} {Q:Exit->AS->Prop} {rest:List Oper} {fr:List (Nat×AV)} {hp hp':List Ow} {ty:TypeId} {ps:String} {af:Array Edge}
theorem A1u{T:TypeId}{x:Operand}{y:D}{k t:Nat}(hx:AS.arg ⟨fr,hp⟩ x = .d y)(h1:One hp (.d y))(hT:Nat.beq T 108=false)(hd:Nat.blt t n=true)(hk:Gz hp=some k)(hs:Eo hp (.var T ([y].map .d))=some hp')(h:AWl P s0 n ops Q rest ⟨(t,.ptr k 0)::fr,hp'⟩):AWl P s0 n ops Q (⟨some t,.box T x,ty,ps,af,none⟩::rest) ⟨fr,hp⟩:=by
 obtain rfl:=ED hk
 rw [DB hs] at h
 refine AWl.step rfl λs ρ a hst K hK=>?_
 have hx':=hst.arg x
 rw [hx] at hx'
 have h1':=h1 _ _ _ _ hst.hp hx'
 have hcs:(a.eval x).cells=#[a.eval x]:=by cases hv:a.eval x<;>first | rfl | (rw [hv] at h1';cases h1')
 have hrun:(execOp a.eval ⟨some t,.box T x,ty,ps,af,none⟩).run P s.w = .ok (.value (.pointer (some ⟨s.w.heap.size,0,none⟩))) (s.w.alloc (.cells #[a.eval x] T)):=by
  simp only [execOp,Instr.box,Sem.run_bind,GJ,Result.andThen_ok,Sem.run_pure,hcs]
 unfold Oper.wp
 rw [hrun]
 have hT':=Nat.ne_of_beq_eq_false hT
 refine hK _ _ _ h ⟨s.mk' #[a.eval x] T 0,_,rfl,hst.new (s.le_mk' _ T 0 hT') (dst:=some t) (λd hd'=>by cases hd';simpa [Nat.blt_eq] using hd) (u:=.pointer (some ⟨s.w.heap.size,0,none⟩)) ⟨by simp,s.w.heap.size,by simp,rfl⟩ ?_ λb hb=>by cases hb;exact Nat.le_refl _⟩
 refine ⟨s.w.heap.size,#[a.eval x],by simp,Nat.zero_le _,heap_alloc_new s.w _,by simp,hT',λk hk=>absurd (hst.ok.lt _ _ hk) (Nat.lt_irrefl _),λk av hk=>?_⟩
 cases k with
 | zero=>cases hk;exact ⟨a.eval x,by simp,h1',y.st hx' (s.le_mk' _ T 0 hT').chg⟩
 | succ k=>cases hk
end
def plD(l:List (List Tm)):D:=slD 44 1 (l.map λp=>[Bp p])
def pAt(l:List (List Tm))(k:Nat):List Tm:=l.getD k default
theorem Lh{l:List (List Tm)}{k:Nat}(h:k<l.length):pAt l k∈l:=by
 unfold pAt
 rw [List.getD_eq_getElem?_getD,List.getElem?_eq_getElem h]
 exact List.getElem_mem _
def PlB(l:List (List Tm))(n N:Nat)(d:Int):Prop:=∀p∈l,PB p n N d
def Hg(C l:List (List Tm)):Nat->List Tm
 | 0=>[]
 | k+1=>CV (Hg C l k) (Fz (pAt C k) (pAt l k))
theorem Lg{C l:List (List Tm)}{n N n' N':Nat}{d d':Int}(hC:PlB C n N d)(hl:PlB l n' N' d')(h0:0<=d)(h0':0<=d')(hle:C.length=l.length):∀k,k<=C.length->PB (Hg C l k) (k*(n*n')) (k*(n*(N+N'+1)+1)) (d+d')
 | 0,_=>PB.nil
 | k+1,hk=>by
  have h1:=(Lg hC hl h0 h0' hle k (by omega)).add ((hC _ (Lh (show k<C.length by omega))).mul (hl _ (Lh (show k<l.length by omega))) h0 h0')
  exact h1.mono (by rw [Nat.succ_mul];exact Nat.le_refl _) (by rw [Nat.succ_mul];omega) (by omega)
abbrev Yh(l:List (List Tm))(i:Nat)(z:List Ow):List Ow:=.var 63 ([plD l].map .d) :: .var 3 ([ex (.int .i64 (i:Nat))].map .d)::z
abbrev A3f(l:List (List Tm))(i:Nat):List Ow:=Yh l i []
theorem QB(S q:List Tm)(l:List (List Tm))(i:Nat)(n N n' N' n2 N2:Nat)(d d' d2:Int)(hS:PB S n2 N2 d2)(hq:PB q n N d)(hl:PlB l n' N' d')(hi:i<l.length)(hll:l.length<=1000)(h0:0<=d)(h0':0<=d')(hd:d+d'<=65535)(hn:n*n'<=100000)(hn2:n2+n*n'<=100000)(hN:N+N'+1<=10000000)(hN2:N2+n*(N+N'+1)+1<=4398046511103) :
  Con Tryz.prog 58 [.d (Bp S),.d (Bp q),.ptr 0 0,.ptr 1 0] (A3f l i) [] (λr hp'=>r = .d (CK [Bp (CV S (Fz q (pAt l i))),ex (.int .i64 0)])/\hp'=Yh l (i+1) [.dead]):=by
 have hli:=hl _ (Lh hi)
 refine Na Tryz.func58 rfl (AG Tryz.func58 (by kernel_rfl) (by kernel_rfl)) rfl λs0 pv0 pv1=>?_
 rw [Tryz.ntmps58]
 refine Y1<|Wa<|Wa<|Y0<|Y1<|Wm ?_;refine Wq AI ?_;refine Wq AI ?_;refine Wq AC ?_;refine Wq BG ?_;refine Wq (Af (PV hq hli h0 h0' hd hn hN)) ?_;refine Wm ?_;refine Wq Bd ?_;refine Wq Bd ?_;refine Wa<|Wa<|Y0<|Y1 ?_;refine Wq AI ?_;refine Wq AH ?_;refine Sc (ao rfl) (ao rfl) rfl (Ad rfl) (by first | exact Ij rfl | exact One.sl | exact MY) rfl rfl ?_;refine Y0<|Y1<|Wm<|Wm ?_;refine Wq (Af (JH hS (hq.mul hli h0 h0') hn2 (by omega))) ?_;refine Wm<|Wa<|Wa<|Y0<|At ?_
 refine Et (RetsA.d (BV (ResV.tmp rfl rfl) (ResV.tmp rfl rfl) (BM (D.le.refl _) (D.le.refl _)))) rfl ?_ rfl
 exact ⟨rfl,rfl⟩
theorem Wf(C l:List (List Tm))(n N n' N':Nat)(d d':Int)(hC:PlB C n N d)(hl:PlB l n' N' d')(hle:C.length=l.length)(hll:C.length<=100)(h0:0<=d)(h0':0<=d')(hd:d+d'<=65535)(hn:n*n'<=900)(hN:n*(N+N'+1)<=100000000)(hN2:N+N'+1<=10000000) :
  Con Tryz.prog 57 [.d (plD C),.fn 58 [0,1]] (A3f l 0) [] (λr hp'=>r = .d (CK [Bp (Hg C l C.length),ex (.int .i64 0)])/\hp'=Yh l C.length [.dead]):=by
 refine Na Tryz.func57 rfl (AG Tryz.func57 (by kernel_rfl) (by kernel_rfl)) rfl λs0 pv0 pv1=>?_
 rw [Tryz.ntmps57]
 refine Y1<|Wa<|Wa<|Y0 ?_;apply Oy;refine Y1<|Wa<|Y0<|Y1<|Wa<|Y0<|Aa ?_;apply Oz;refine Yn<|Aa<|Y1<|Wm ?_;refine Wq AN ?_;refine Wm<|Y0<|AWp.block ?_
 refine AQ (λmz σ=>∃k,k<=C.length/\mz=C.length-k/\σ=⟨[(1,.fn 58 [0,1]),(6,.d (Bp (Hg C l k))),(7,.d (ex (.int .i64 0))),(10,.d (plD C)),(11,.d (ex (.int .i64 (C.length:Nat)))),(12,.d (ex (.int .i64 (k:Nat))))],[.var 63 ([plD l].map .d),.var 3 ([ex (.int .i64 (k:Nat))].map .d),.pin [(pv0,.own 0),(pv1,.own 1)]]⟩) ?le ⟨0,by omega,rfl,rfl⟩ ?round
 case le=>exact Ak (by exact FrLe.cons rfl (Qd rfl)<|FrLe.cons rfl (AVle.le Fp)<|Yd<|Yd<|Yd<|Yd<|FrLe.nil) (by exact Yv<|Yv<|HpLe.cons (BA rfl)<|HpLe.nil)
 case round=>
  rintro mz _ ⟨k,hk,rfl,rfl⟩
  by_cases hlt:k<C.length
  .have hb:=Lg hC hl h0 h0' hle k (by omega)
   have hkn:k*(n*n')<=100*900:=Nat.mul_le_mul (by omega) hn
   have hkN:k*(n*(N+N'+1)+1)<=100*100000001:=Nat.mul_le_mul (by omega) (by omega)
   apply Y1;refine Wq Ai ?_;refine Y0<|Aa<|Ct<|Ys<|Aa<|AWp.block<|Y1 ?_;refine Wq AC ?_;refine Wq BG ?_;refine Wa<|Y0<|Y1<|Wm<|Wm<|Wm ?_
   refine Kk [0,1] [0,1] (QB (Hg C l k) (pAt C k) l k n N n' N' (k*(n*n')) (k*(n*(N+N'+1)+1)) d d' (d+d') hb (hC _ (Lh hlt)) hl (by omega) (by omega) h0 h0' hd (by omega) (by omega) hN2 (by omega)) ?_
   rintro _ _ ⟨rfl,rfl⟩
   refine Kr ?_
   refine Wm ?_;refine Wq Bd ?_;refine Wq Bd ?_;refine Wa<|Wa<|Y0<|Y1<|Wm ?_;refine Wq Aj ?_;refine Y0<|Cf<|Bw<|Ah<|Yn<|AWp.region ?_;refine Wq AH ?_;refine Wm<|AWl.nil ?_
   refine ALoop.next (C.length-(k+1)) (by omega) ⟨k+1,by omega,rfl,rfl⟩ ?_
   exact Ak (by exact FrLe.cons rfl (Qd rfl)<|Yd<|Yd<|Yd<|Yd<|Yd<|FrLe.nil) (by exact HpLe.cons (Ou rfl)<|HpLe.cons (Ou rfl)<|HpLe.cons (BA rfl)<|HpLe.nil)
  .obtain rfl:k=C.length:=by omega
   apply Y1;refine Wq Aj ?_;refine Y0<|Aa<|Cf<|AP<|AA<|AF<|AB<|Yn<|Y1<|Wm<|Wm<|Wa<|Wa<|Y0<|At ?_;apply ANo.ret
   refine Et (RetsA.d (BV (ResV.tmp rfl rfl) (ResV.tmp rfl rfl) (BM (D.le.refl _) (D.le.refl _)))) rfl ?_ rfl
   exact ⟨rfl,rfl⟩
theorem Kv(p:List Tm)(S:List Sq)(C l:List (List Tm))(n N n' N' n2 N2 K np Np:Nat)(d d' d2 dp:Int)(hp:PB p np Np dp)(hS:SqB S n2 N2 K d2)(hSn:S.length<=100)(hpos:∀k,k<S.length->0<=(Ng S k).a.num.sign)(hC:PlB C n N d)(hl:PlB l n' N' d')(hle:C.length=l.length)(hll:C.length<=100)(h0:0<=d)(h0':0<=d')(hd:d+d'<=65535)(hn:n*n'<=100)(hN:n*(N+N'+1)<=1000000)(hN2:N+N'+1<=1000000)
  (h02:0<=d2) (hd2:d2+d2<=65535) (hn2:n2<=10) (hN22:N2<=10000) (hK:K<=10000) (hnp:np<=100000) (hNp:Np<=1000000) :
  Abs Tryz.prog 24 [Bp p,Iz S,plD C,plD l] (ex (.bool (decide (Ev p (CV (Fu S) (Hg C l C.length))=0)))):=by
 have hs:=JN hS h02 S.length (Nat.le_refl _)
 rw [List.take_length] at hs
 have hpr:=Lg hC hl h0 h0' hle C.length (Nat.le_refl _)
 have e1:n2*n2<=10*10:=Nat.mul_le_mul hn2 hn2
 have e2:S.length*(n2*n2)<=100*100:=Nat.mul_le_mul hSn (by omega)
 have e3:n2*(N2+N2+1)<=10*20001:=Nat.mul_le_mul hn2 (by omega)
 have e4:S.length*(K+n2*(N2+N2+1)+1)<=100*300000:=Nat.mul_le_mul hSn (by omega)
 have e5:C.length*(n*n')<=100*100:=Nat.mul_le_mul hll hn
 have e6:C.length*(n*(N+N'+1)+1)<=100*1000001:=Nat.mul_le_mul hll (by omega)
 have hsum:=hs.add hpr
 have hsl:=hsum.len
 have hpl:=hp.len
 have csame:=Xh p (CV (Fu S) (Hg C l C.length)) (hp.sz.mono (by omega)) (hsum.sz.mono (by omega)) (by omega) (by omega)
 refine Ab Tryz.func24 λs0=>?_
 rw [Tryz.ntmps24]
 apply Y1;refine A1u (ao rfl) One.sl rfl rfl rfl rfl ?_;refine Wa<|Y0<|Aa<|Y1<|Wm ?_;refine Wq (Af (NE S (by omega) hpos)) ?_;refine Wq Bl ?_;refine Wm ?_;refine Wg Ae ?_;refine Wg AN ?_;refine Wg AI ?_;refine Wg AN ?_;refine Wg Aj ?_;refine Wq Az ?_;refine Y0<|Cf<|Ys<|Y1<|Wm ?_;refine Wq (Af (LK S n2 N2 K d2 hS h02 hSn hd2 (by omega) (by omega) (by omega))) ?_;refine Wm ?_;refine Wq Bd ?_;refine Wq Bd ?_;refine Wa<|Wa<|Y0<|Aa<|Y1<|Wm ?_;refine Wq Aj ?_;refine Y0<|Cf<|Ys<|Y1 ?_;refine Al ?_;refine Sc (ao rfl) (ao rfl) rfl (Ad rfl) (by first | exact Ij rfl | exact One.sl | exact MY) rfl rfl ?_;refine Y0<|Y1<|Wm ?_;refine Wq (A1d [0,1] rfl) ?_
 refine Kk [0,1] [] (Wf C l n N n' N' d d' hC hl hle hll h0 h0' hd (by omega) (by omega) (by omega)) ?_
 rintro _ _ ⟨rfl,rfl⟩
 refine Kr ?_
 refine Wm ?_;refine Wq Bd ?_;refine Wq Bd ?_;refine Wa<|Wa<|Y0<|Y1<|Wm ?_;refine Wq Ai ?_;refine Wm ?_;refine Wg Ae ?_;refine Wg Ae ?_;refine Wg Ae ?_;refine Wg (Af (JH hs hpr (by omega) (by omega))) ?_;refine Wg (Af (csame)) ?_;refine Wq AE ?_;refine Wa<|Y0<|At ?_
 exact Yf
def DS{α:Type}(r:Nat->α)(k:Nat)(u:α):Nat->α:=λj=>if j=k then u else r j
def Jl(f:Nat->Rat)(c:Nat):D:=slD 42 4 ((List.range c).map λj=>Bz (f j))
def BY(r c:Nat)(M:Nat->Nat->Rat):D:=slD 62 1 ((List.range r).map λi=>[Jl (M i) c])
theorem SB{r k:Nat}(h:k<r):(List.range r).getD k default=k:=by
 rw [List.getD_eq_getElem?_getD,List.getElem?_range h];rfl
section
variable {P:Program} {hp:List Ow} {arg:Operand->AV} {dd:Option Tmp} {ty:TypeId} {ps:String} {af:Array Edge} {gd:Option (Nat×Bool)}
theorem AR{x y:Operand}{t:TypeId}{e n b n' b' T sz r k:Nat}{d:TypeDesc}{z z':Value}{f:Nat->List D}{κ:IntKind}(hx:Ew hp (arg x)=some (slD T sz ((List.range r).map f)))(hy:arg y = .d (ex (.int κ ((k:Nat):Int))))(ht:Tab P t (.slice e) n b z)(he:Tab P e d n' b' z')(hsz:n'=sz)(hk:k<r):Quiet P hp ⟨dd,.indexAddr t x y,ty,ps,af,gd⟩ arg (.d (Is T (f k))):=by
 have:=DQ (dd:=dd) (ty:=ty) (ps:=ps) (af:=af) (gd:=gd) hx hy ht he hsz (by simpa using hk)
 rwa [SB hk] at this
theorem Bi{x:Operand}{t:TypeId}{e n b T sz r:Nat}{z:Value}{f:Nat->List D}(hx:Ew hp (arg x)=some (slD T sz ((List.range r).map f)))(ht:Tab P t (.slice e) n b z):Quiet P hp ⟨dd,.call { callee:=.builtin .len,args:=#[x],argTypes:=#[t] },ty,ps,af,gd⟩ arg (.d (ex (.int .i64 (r:Nat)))):=by
 have:=JE (dd:=dd) (ty:=ty) (ps:=ps) (af:=af) (gd:=gd) hx ht
 rwa [List.length_range] at this
end
def Bg(f:Nat->Rat)(n:Nat):List D:=((List.range n).map λj=>Bz (f j)).flatten
theorem Mk(f:Nat->Rat)(n:Nat):Bg f (n+1)=Bg f n++Bz (f n):=by
 simp [Bg,List.range_succ]
theorem Cu(f:Nat->Rat):∀n,(Bg f n).length=n*4
 | 0=>rfl
 | n+1=>by rw [Mk,List.length_append,Cu f n,Dh,Nat.succ_mul]
theorem HH(f:Nat->Rat):∀{n j q:Nat},j<n->q<4->(Bg f n)[j*4+q]? = (Bz (f j))[q]?
 | n+1,j,q,hj,hq=>by
  rw [Mk]
  by_cases h:j<n
  .rw [List.getElem?_append_left (by rw [Cu]; omega)]
   exact HH f h hq
  .obtain rfl:j=n:=by omega
   rw [List.getElem?_append_right (by rw [Cu];omega),Cu]
   congr 1
   omega
theorem BH{f:Nat->Rat}{n j:Nat}(hj:j<n):PartAt (Bg f n) (j*4) 4 (Bz (f j)):=by
 refine ⟨by rw [Cu];omega,?_⟩
 apply List.ext_getElem?
 intro q
 rw [List.getElem?_take]
 split
 .rename_i hq
  rw [List.getElem?_drop]
  exact HH f hj hq
 .rename_i hq
  rw [List.getElem?_eq_none (by rw [Dh];omega)]
theorem DH{f:Nat->Rat}{n j:Nat}{v:Rat}(hj:j<n):SetAt (Bg f n) (j*4) (Bz v) (Bg (DS f j v) n):=by
 have hl:∀v:Rat,(Bz v).length=4:=Dh
 have hle:j*4+(Bz v).length<=(Bg f n).length:=by rw [Cu,hl];omega
 refine ⟨hle,?_⟩
 apply List.ext_getElem?
 intro i
 by_cases hi:i<n*4
 .have e1:i=i/4*4+i%4:=by omega
  have hlt:i/4<n:=by omega
  have hm:i%4<4:=by omega
  have e2:(Bg (DS f j v) n)[i]? = (Bz (DS f j v (i/4)))[i%4]?:=by
   have:=HH (DS f j v) hlt hm
   rwa [<-e1] at this
  have e3:(Bg f n)[i]? = (Bz (f (i/4)))[i%4]?:=by
   have:=HH f hlt hm
   rwa [<-e1] at this
  rw [e2]
  unfold Ny
  have ht:((Bg f n).take (j*4)).length=j*4:=by rw [List.length_take,Cu];omega
  by_cases h1:i<j*4
  .rw [List.getElem?_append_left (by omega),List.getElem?_take,if_pos h1,e3,DS,if_neg (by omega)]
  .rw [List.getElem?_append_right (by omega), ht]
   by_cases h2:i<j*4+4
   .rw [List.getElem?_append_left (by rw [hl]; omega), DS, if_pos (by omega)]
    congr 1
    omega
   .rw [List.getElem?_append_right (by rw [hl]; omega), List.getElem?_drop, hl, DS, if_neg (by omega), <-e3]
    congr 1
    omega
 .rw [List.getElem?_eq_none (by rw [DA hle,Cu];omega),List.getElem?_eq_none (by rw [Cu];omega)]
theorem Di{f g:Nat->Rat}{n:Nat}(h:∀j,j<n->f j=g j):Bg f n=Bg g n:=by
 unfold Bg
 rw [List.map_congr_left λj hj=>by rw [h j (List.mem_range.1 hj)]]
def DT(b0 n m:Nat)(b c:Nat->Nat)(M:Nat->Nat->Rat):List HE:=
 ⟨b0,62,(List.range n).map λi=>if i<m then sX (b i) n (c i) else ex (.slice none 0 0)⟩::(List.range m).map λi=>⟨b i,42,Bg (M i) n⟩
theorem Dc{b0 n m i:Nat}{b c:Nat->Nat}{M:Nat->Nat->Rat}(h:i<m):(DT b0 n m b c M)[i+1]? = some ⟨b i,42,Bg (M i) n⟩:=by
 simp [DT,h]
theorem CS{b0 n m:Nat}{b c:Nat->Nat}{M:Nat->Nat->Rat}:(DT b0 n m b c M)[0]? = some ⟨b0,62,(List.range n).map λi=>if i<m then sX (b i) n (c i) else ex (.slice none 0 0)⟩:=rfl
theorem CN{n m i:Nat}{b c:Nat->Nat}(h:i<m)(hm:m<=n):CellAt ((List.range n).map λi=>if i<m then sX (b i) n (c i) else ex (.slice none 0 0)) (i*1) (sX (b i) n (c i)):=by
 rw [Nat.mul_one]
 refine ⟨by simp;omega,?_⟩
 have:i<n:=by omega
 simp [Cj,this,h]
theorem SN{n m g cg:Nat}{b c:Nat->Nat}(h:m<n):SetAt ((List.range n).map λi=>if i<m then sX (b i) n (c i) else ex (.slice none 0 0)) (m*1) [sX g n cg] ((List.range n).map λi=>if i<m+1 then sX (DS b m g i) n (DS c m cg i) else ex (.slice none 0 0)):=by
 rw [Nat.mul_one]
 have hle:m+[sX g n cg].length<=((List.range n).map λi=>if i<m then sX (b i) n (c i) else ex (.slice none 0 0)).length:=by simp;omega
 refine ⟨hle,?_⟩
 apply List.ext_getElem?
 intro i
 have hs:Ny ((List.range n).map λi=>if i<m then sX (b i) n (c i) else ex (.slice none 0 0)) m [sX g n cg]=((List.range n).map λi=>if i<m then sX (b i) n (c i) else ex (.slice none 0 0)).set m (sX g n cg):=by
  unfold Ny
  rw [List.set_eq_take_append_cons_drop,if_pos (by simpa using h)]
  rfl
 rw [hs,List.getElem?_set]
 by_cases hi:i<n
 .split
  .rename_i e
   subst e
   simp [hi,DS]
  .rename_i e
   simp only [List.getElem?_map,List.getElem?_range hi,Option.map_some,DS]
   have e':¬i=m:=λh=>e h.symm
   simp only [if_neg e']
   by_cases h1:i<m
   .rw [if_pos h1,if_pos (by omega)]
   .rw [if_neg h1,if_neg (by omega)]
 .split
  .omega
  .rw [List.getElem?_eq_none (by simp;omega),List.getElem?_eq_none (by simp;omega)]
theorem SM{b0 n m g cg:Nat}{b c:Nat->Nat}{M:Nat->Nat->Rat}:(DT b0 n m b c M).set 0 ⟨b0,62,(List.range n).map λi=>if i<m+1 then sX (DS b m g i) n (DS c m cg i) else ex (.slice none 0 0)⟩++[⟨g,42,Bg (M m) n⟩]=DT b0 n (m+1) (DS b m g) (DS c m cg) M:=by
 simp only [DT,List.set_cons_zero,List.cons_append,List.range_succ (n:=m),List.map_append,List.map_cons,List.map_nil]
 congr 2
 .apply List.map_congr_left
  intro i hi
  have:=List.mem_range.1 hi
  rw [DS,if_neg (by omega)]
 .rw [DS,if_pos rfl]
def Sh(M:Nat->Nat->Rat)(i j:Nat)(v:Rat):Nat->Nat->Rat:=DS M i (DS (M i) j v)
theorem VR{b0 n m i j:Nat}{b c:Nat->Nat}{M:Nat->Nat->Rat}{v:Rat}(h:i<m):(DT b0 n m b c M).set (i+1) ⟨b i,42,Bg (DS (M i) j v) n⟩=DT b0 n m b c (Sh M i j v):=by
 simp only [DT,List.set_cons_succ]
 congr 1
 apply List.ext_getElem?
 intro q
 rw [List.getElem?_set]
 by_cases hq:q<m
 .split
  .rename_i e
   subst e
   simp [hq,Sh,DS]
  .rename_i e
   simp only [List.getElem?_map,List.getElem?_range hq,Option.map_some,Sh]
   rw [DS,if_neg (λh=>e h.symm)]
 .split
  .omega
  .rw [List.getElem?_eq_none (by simp;omega),List.getElem?_eq_none (by simp;omega)]
theorem KB{b0 n m:Nat}{b c:Nat->Nat}{M M':Nat->Nat->Rat}(h:∀i,i<m->∀j,j<n->M i j=M' i j):DT b0 n m b c M=DT b0 n m b c M':=by
 unfold DT
 congr 1
 apply List.map_congr_left
 intro i hi
 rw [Di (h i (List.mem_range.1 hi))]
theorem IF(r c:Nat)(M:Nat->Nat->Rat)(N:Nat)(hM:∀i j,RSz (M i j) N)(hN:N<=1000000000)(hr:r<=1000)(hc:c<=1000):Abs Tryz.prog 32 [BY r c M] (ex (.bool true)):=by
 refine Ab Tryz.func32 λs0=>?_
 rw [Tryz.ntmps32]
 refine Y1<|Wa<|Y0<|Aa<|Y1<|Wm ?_;refine Wq (Bi rfl (Ad rfl)) ?_;refine Wm<|Y0<|AWp.block ?_
 refine AQ (λmz σ=>∃k,k<=r/\mz=r-k/\σ=⟨[(0,.d (BY r c M)),(7,.d (BY r c M)),(8,.d (ex (.int .i64 (r:Nat)))),(9,.d (ex (.int .i64 (k:Nat))))],[]⟩) ?le ⟨0,by omega,rfl,rfl⟩ ?round
 case le=>exact Ak (by exact Yd<|Yd<|Yd<|Yd<|FrLe.nil) (by exact HpLe.nil)
 case round=>
  rintro mz _ ⟨k,hk,rfl,rfl⟩
  by_cases hlt:k<r
  .refine Aa<|AWp.region ?_; refine Wq Ai ?_; refine AWl.nil<|Yn<|Aa<|Ct<|Bw<|Yn<|Aa<|AWp.block<|Aa<|AWp.region ?_; refine Wq (AR (k:=k) rfl (ao rfl) (Ad rfl) (Ad rfl) rfl (by omega)) ?_; refine Wq BG ?_; refine Wa<|AWl.nil<|Yn<|Aa<|Aa<|AWp.region<|Wm ?_; refine Wq (Bi rfl (Ad rfl)) ?_; refine Wm ?_; refine Wq (AR (k:=0) rfl (ao rfl) (Ad rfl) (Ad rfl) rfl (by omega)) ?_; refine Wq BG ?_; refine Wq (Bi rfl (Ad rfl)) ?_; refine Wq Aj ?_; refine AWl.nil<|Yn<|Cf<|Bw<|Yn<|Aa<|AWp.region<|Wm ?_; refine Wq (Bi rfl (Ad rfl)) ?_; refine Wm<|AWl.nil<|Yn<|AWp.block ?_
   refine AQ (λmz σ=>∃i,i<=c/\mz=c-i/\σ=⟨[(0,.d (BY r c M)),(7,.d (BY r c M)),(8,.d (ex (.int .i64 (r:Nat)))),(9,.d (ex (.int .i64 (k:Nat)))),(20,.d (Jl (M k) c)),(21,.d (ex (.int .i64 (c:Nat)))),(22,.d (ex (.int .i64 (i:Nat))))],[]⟩) ?lei ⟨0,by omega,rfl,rfl⟩ ?roundi
   case lei=>exact Ak (by exact Yd<|Yd<|Yd<|Yd<|Yd<|Yd<|Yd<|FrLe.nil) (by exact HpLe.nil)
   case roundi=>
    rintro mz _ ⟨i,hi,rfl,rfl⟩
    by_cases hlti:i<c
    .refine Aa<|AWp.region ?_; refine Wq Ai ?_; refine AWl.nil<|Yn<|Aa<|Ct<|Bw<|Yn<|Aa<|AWp.block<|Aa<|AWp.region ?_; refine Wq (AR (k:=i) rfl (ao rfl) (Ad rfl) (Ad rfl) rfl (by omega)) ?_; refine Wq As ?_; refine Al ?_; refine Sf ?_; refine AWl.nil<|Yn<|Aa<|AWp.region ?_; refine Wq Ar ?_; refine Wq (Af (Qy (M k i) N (hM k i) hN)) ?_; refine Wq Bl ?_; refine AWl.nil<|Yn<|Cf<|Bw<|Ah<|Yn<|AWp.region ?_; refine Wq AH ?_; refine Wm<|AWl.nil ?_
     refine ALoop.next (c-(i+1)) (by omega) ⟨i+1,by omega,rfl,rfl⟩ ?_
     exact Ak (by exact Yd<|Yd<|Yd<|Yd<|Yd<|Yd<|Yd<|FrLe.nil) (by exact HpLe.nil)
    .obtain rfl:i=c:=by omega
     apply Y1;refine Wq Aj ?_;refine Y0<|Aa<|Cf<|AP<|AA<|AF<|AB<|Ah<|Yn<|AWp.region ?_;refine Wq AH ?_;refine Wm<|AWl.nil ?_
     refine ALoop.next (r-(k+1)) (by omega) ⟨k+1,by omega,rfl,rfl⟩ ?_
     exact Ak (by exact Yd<|Yd<|Yd<|Yd<|FrLe.nil) (by exact HpLe.nil)
  .obtain rfl:k=r:=by omega
   apply Y1;refine Wq Aj ?_;refine Y0<|Aa<|Cf<|AP<|AA<|AF<|AB<|Yn<|Y1<|Wa<|Y0<|At ?_
   exact Yf
theorem XF(n:Nat)(M:Nat->Nat->Rat)(N:Nat)(hM:∀i j,RSz (M i j) N)(hN:N<=1000000000)(hn:n<=1000)(h:∀i,i<n->∀j,j<i->M i j=M j i):Abs Tryz.prog 33 [BY n n M] (ex (.bool true)):=by
 refine Ab Tryz.func33 λs0=>?_
 rw [Tryz.ntmps33]
 refine Y1<|Wa<|Y0<|Aa<|Y1<|Wm ?_;refine Wq (Bi rfl (Ad rfl)) ?_;refine Wm<|Y0<|AWp.block ?_
 refine AQ (λmz σ=>∃k,k<=n/\mz=n-k/\σ=⟨[(0,.d (BY n n M)),(6,.d (ex (.int .i64 (n:Nat)))),(7,.d (ex (.int .i64 (k:Nat))))],[]⟩) ?le ⟨0,by omega,rfl,rfl⟩ ?round
 case le=>exact Ak (by exact Yd<|Yd<|Yd<|FrLe.nil) (by exact HpLe.nil)
 case round=>
  rintro mz _ ⟨k,hk,rfl,rfl⟩
  by_cases hlt:k<n
  .apply Y1;refine Wq Ai ?_;refine Y0<|Aa<|Ct<|Ys<|Aa<|AWp.block<|Y1<|Wm<|Wa<|Y0<|Y1<|Wm<|Wm<|Y0<|AWp.block ?_
   refine AQ (λmz σ=>∃i,i<=k/\mz=k-i/\σ=⟨[(0,.d (BY n n M)),(6,.d (ex (.int .i64 (n:Nat)))),(7,.d (ex (.int .i64 (k:Nat)))),(3,.d (ex (.int .i64 (k:Nat)))),(10,.d (ex (.int .i64 (k:Nat)))),(11,.d (ex (.int .i64 (i:Nat))))],[]⟩) ?lei ⟨0,by omega,rfl,rfl⟩ ?roundi
   case lei=>exact Ak (by exact Yd<|Yd<|Yd<|Yd<|Yd<|Yd<|FrLe.nil) (by exact HpLe.nil)
   case roundi=>
    rintro mz _ ⟨i,hi,rfl,rfl⟩
    by_cases hlti:i<k
    .have hq:Hj (M k i) (M i k)=0:=Gs.2 (h k hlt i hlti)
     have cc:=Gr (M k i) (M i k) ((hM k i).mono hN) ((hM i k).mono hN)
     rw [hq] at cc
     apply Y1;refine Wq Ai ?_;refine Y0<|Aa<|Ct<|Ys<|Aa<|AWp.block<|Y1<|Wm<|Wa<|Y0<|Aa ?_
     refine Dr [[],[],[(14,0),(15,1)],[(16,2)],[],[(17,3),(18,4)],[(19,5)],[],[],[(21,7),(22,8)],[(23,9)],[],[(24,10),(25,11)],[(26,12)],[(20,6),(27,13)],[(28,14)]] [[],[],[0,1],[0,1,2],[],[0,1,2,3,4],[0,1,2,3,4,5],[],[],[7,8],[7,8,9],[],[7,8,9,10,11],[7,8,9,10,11,12],[0,1,2,3,4,5,6,7,8,9,10,11,12,13],[0,1,2,3,4,5,6,7,8,9,10,11,12,13,14]] ?_
     refine Xq Ae ?_;refine Xq Ae ?_;refine Xq (AR (k:=k) rfl (ah rfl) (Ad rfl) (Ad rfl) rfl (by omega)) ?_;refine Xq BG ?_;refine Xq Ae ?_;refine Xq (AR (k:=i) rfl (ah rfl) (Ad rfl) (Ad rfl) rfl (by omega)) ?_;refine Xq As ?_;refine Xq Ae ?_;refine Xq Ae ?_;refine Xq (AR (k:=i) rfl (ah rfl) (Ad rfl) (Ad rfl) rfl (by omega)) ?_;refine Xq BG ?_;refine Xq Ae ?_;refine Xq (AR (k:=k) rfl (ah rfl) (Ad rfl) (Ad rfl) rfl (by omega)) ?_;refine Xq As ?_;refine Xq (Af (cc)) ?_;refine Xq Aj ?_;refine ⟨_,rfl,?_⟩
     refine Y0<|Cf<|Bw<|Ah<|Yn<|AWp.region ?_;refine Wq AH ?_;refine Wm<|AWl.nil ?_
     refine ALoop.next (k-(i+1)) (by omega) ⟨i+1,by omega,rfl,rfl⟩ ?_
     exact Ak (by exact Yd<|Yd<|Yd<|Yd<|Yd<|Yd<|FrLe.nil) (by exact HpLe.nil)
    .obtain rfl:i=k:=by omega
     apply Y1;refine Wq Aj ?_;refine Y0<|Aa<|Cf<|AP<|AA<|AF<|AB<|Ah<|Yn<|AWp.region ?_;refine Wq AH ?_;refine Wm<|AWl.nil ?_
     refine ALoop.next (n-(i+1)) (by omega) ⟨i+1,by omega,rfl,rfl⟩ ?_
     exact Ak (by exact Yd<|Yd<|Yd<|FrLe.nil) (by exact HpLe.nil)
  .obtain rfl:k=n:=by omega
   apply Y1;refine Wq Aj ?_;refine Y0<|Aa<|Cf<|AP<|AA<|AF<|AB<|Yn<|Y1<|Wa<|Y0<|At ?_
   exact Yf
theorem XG(n:Nat)(M:Nat->Nat->Rat)(N:Nat)(hM:∀i j,RSz (M i j) N)(hN:N<=1000000000)(hn:n<=1000)(z w:Nat)(hz:z<n)(hw:w<z)(h:∀i,i<z->∀j,j<i->M i j=M j i)(h':∀j,j<w->M z j=M j z)(hbad:M z w≠M w z):Abs Tryz.prog 33 [BY n n M] (ex (.bool false)):=by
 refine Ab Tryz.func33 λs0=>?_
 rw [Tryz.ntmps33]
 refine Y1<|Wa<|Y0<|Aa<|Y1<|Wm ?_;refine Wq (Bi rfl (Ad rfl)) ?_;refine Wm<|Y0<|AWp.block ?_
 refine AQ (λmz σ=>∃k,k<=z/\mz=z-k/\σ=⟨[(0,.d (BY n n M)),(6,.d (ex (.int .i64 (n:Nat)))),(7,.d (ex (.int .i64 (k:Nat))))],[]⟩) ?le ⟨0,by omega,rfl,rfl⟩ ?round
 case le=>exact Ak (by exact Yd<|Yd<|Yd<|FrLe.nil) (by exact HpLe.nil)
 case round=>
  rintro mz _ ⟨k,hk,rfl,rfl⟩
  by_cases hlt:k<z
  .apply Y1;refine Wq Ai ?_;refine Y0<|Aa<|Ct<|Ys<|Aa<|AWp.block<|Y1<|Wm<|Wa<|Y0<|Y1<|Wm<|Wm<|Y0<|AWp.block ?_
   refine AQ (λmz σ=>∃i,i<=k/\mz=k-i/\σ=⟨[(0,.d (BY n n M)),(6,.d (ex (.int .i64 (n:Nat)))),(7,.d (ex (.int .i64 (k:Nat)))),(3,.d (ex (.int .i64 (k:Nat)))),(10,.d (ex (.int .i64 (k:Nat)))),(11,.d (ex (.int .i64 (i:Nat))))],[]⟩) ?lei ⟨0,by omega,rfl,rfl⟩ ?roundi
   case lei=>exact Ak (by exact Yd<|Yd<|Yd<|Yd<|Yd<|Yd<|FrLe.nil) (by exact HpLe.nil)
   case roundi=>
    rintro mz _ ⟨i,hi,rfl,rfl⟩
    by_cases hlti:i<k
    .have hq:Hj (M k i) (M i k)=0:=Gs.2 (h k hlt i hlti)
     have cc:=Gr (M k i) (M i k) ((hM k i).mono hN) ((hM i k).mono hN)
     rw [hq] at cc
     apply Y1;refine Wq Ai ?_;refine Y0<|Aa<|Ct<|Ys<|Aa<|AWp.block<|Y1<|Wm<|Wa<|Y0<|Aa ?_
     refine Dr [[],[],[(14,0),(15,1)],[(16,2)],[],[(17,3),(18,4)],[(19,5)],[],[],[(21,7),(22,8)],[(23,9)],[],[(24,10),(25,11)],[(26,12)],[(20,6),(27,13)],[(28,14)]] [[],[],[0,1],[0,1,2],[],[0,1,2,3,4],[0,1,2,3,4,5],[],[],[7,8],[7,8,9],[],[7,8,9,10,11],[7,8,9,10,11,12],[0,1,2,3,4,5,6,7,8,9,10,11,12,13],[0,1,2,3,4,5,6,7,8,9,10,11,12,13,14]] ?_
     refine Xq Ae ?_;refine Xq Ae ?_;refine Xq (AR (k:=k) rfl (ah rfl) (Ad rfl) (Ad rfl) rfl (by omega)) ?_;refine Xq BG ?_;refine Xq Ae ?_;refine Xq (AR (k:=i) rfl (ah rfl) (Ad rfl) (Ad rfl) rfl (by omega)) ?_;refine Xq As ?_;refine Xq Ae ?_;refine Xq Ae ?_;refine Xq (AR (k:=i) rfl (ah rfl) (Ad rfl) (Ad rfl) rfl (by omega)) ?_;refine Xq BG ?_;refine Xq Ae ?_;refine Xq (AR (k:=k) rfl (ah rfl) (Ad rfl) (Ad rfl) rfl (by omega)) ?_;refine Xq As ?_;refine Xq (Af (cc)) ?_;refine Xq Aj ?_;refine ⟨_,rfl,?_⟩
     refine Y0<|Cf<|Bw<|Ah<|Yn<|AWp.region ?_;refine Wq AH ?_;refine Wm<|AWl.nil ?_
     refine ALoop.next (k-(i+1)) (by omega) ⟨i+1,by omega,rfl,rfl⟩ ?_
     exact Ak (by exact Yd<|Yd<|Yd<|Yd<|Yd<|Yd<|FrLe.nil) (by exact HpLe.nil)
    .obtain rfl:i=k:=by omega
     apply Y1;refine Wq Aj ?_;refine Y0<|Aa<|Cf<|AP<|AA<|AF<|AB<|Ah<|Yn<|AWp.region ?_;refine Wq AH ?_;refine Wm<|AWl.nil ?_
     refine ALoop.next (z-(i+1)) (by omega) ⟨i+1,by omega,rfl,rfl⟩ ?_
     exact Ak (by exact Yd<|Yd<|Yd<|FrLe.nil) (by exact HpLe.nil)
  .obtain rfl:k=z:=by omega
   apply Y1;refine Wq Ai ?_;refine Y0<|Aa<|Ct<|Ys<|Aa<|AWp.block<|Y1<|Wm<|Wa<|Y0<|Y1<|Wm<|Wm<|Y0<|AWp.block ?_
   refine AQ (λmz σ=>∃i,i<=w/\mz=w-i/\σ=⟨[(0,.d (BY n n M)),(6,.d (ex (.int .i64 (n:Nat)))),(7,.d (ex (.int .i64 (k:Nat)))),(3,.d (ex (.int .i64 (k:Nat)))),(10,.d (ex (.int .i64 (k:Nat)))),(11,.d (ex (.int .i64 (i:Nat))))],[]⟩) ?lei ⟨0,by omega,rfl,rfl⟩ ?roundi
   case lei=>exact Ak (by exact Yd<|Yd<|Yd<|Yd<|Yd<|Yd<|FrLe.nil) (by exact HpLe.nil)
   case roundi=>
    rintro mz _ ⟨i,hi,rfl,rfl⟩
    by_cases hlti:i<w
    .have hq:Hj (M k i) (M i k)=0:=Gs.2 (h' i hlti)
     have cc:=Gr (M k i) (M i k) ((hM k i).mono hN) ((hM i k).mono hN)
     rw [hq] at cc
     apply Y1;refine Wq Ai ?_;refine Y0<|Aa<|Ct<|Ys<|Aa<|AWp.block<|Y1<|Wm<|Wa<|Y0<|Aa ?_
     refine Dr [[],[],[(14,0),(15,1)],[(16,2)],[],[(17,3),(18,4)],[(19,5)],[],[],[(21,7),(22,8)],[(23,9)],[],[(24,10),(25,11)],[(26,12)],[(20,6),(27,13)],[(28,14)]] [[],[],[0,1],[0,1,2],[],[0,1,2,3,4],[0,1,2,3,4,5],[],[],[7,8],[7,8,9],[],[7,8,9,10,11],[7,8,9,10,11,12],[0,1,2,3,4,5,6,7,8,9,10,11,12,13],[0,1,2,3,4,5,6,7,8,9,10,11,12,13,14]] ?_
     refine Xq Ae ?_;refine Xq Ae ?_;refine Xq (AR (k:=k) rfl (ah rfl) (Ad rfl) (Ad rfl) rfl (by omega)) ?_;refine Xq BG ?_;refine Xq Ae ?_;refine Xq (AR (k:=i) rfl (ah rfl) (Ad rfl) (Ad rfl) rfl (by omega)) ?_;refine Xq As ?_;refine Xq Ae ?_;refine Xq Ae ?_;refine Xq (AR (k:=i) rfl (ah rfl) (Ad rfl) (Ad rfl) rfl (by omega)) ?_;refine Xq BG ?_;refine Xq Ae ?_;refine Xq (AR (k:=k) rfl (ah rfl) (Ad rfl) (Ad rfl) rfl (by omega)) ?_;refine Xq As ?_;refine Xq (Af (cc)) ?_;refine Xq Aj ?_;refine ⟨_,rfl,?_⟩
     refine Y0<|Cf<|Bw<|Ah<|Yn<|AWp.region ?_;refine Wq AH ?_;refine Wm<|AWl.nil ?_
     refine ALoop.next (w-(i+1)) (by omega) ⟨i+1,by omega,rfl,rfl⟩ ?_
     exact Ak (by exact Yd<|Yd<|Yd<|Yd<|Yd<|Yd<|FrLe.nil) (by exact HpLe.nil)
    .obtain rfl:i=w:=by omega
     have hq:Hj (M k i) (M i k)≠0:=λe=>hbad (Gs.1 e)
     have cc:=Gr (M k i) (M i k) ((hM k i).mono hN) ((hM i k).mono hN)
     generalize Hj (M k i) (M i k)=u at hq cc
     apply Y1;refine Wq Ai ?_;refine Y0<|Aa<|Ct<|Ys<|Aa<|AWp.block<|Y1<|Wm<|Wa<|Y0<|Aa ?_
     refine Dr [[],[],[(14,0),(15,1)],[(16,2)],[],[(17,3),(18,4)],[(19,5)],[],[],[(21,7),(22,8)],[(23,9)],[],[(24,10),(25,11)],[(26,12)],[(20,6),(27,13)],[(28,14)]] [[],[],[0,1],[0,1,2],[],[0,1,2,3,4],[0,1,2,3,4,5],[],[],[7,8],[7,8,9],[],[7,8,9,10,11],[7,8,9,10,11,12],[0,1,2,3,4,5,6,7,8,9,10,11,12,13],[0,1,2,3,4,5,6,7,8,9,10,11,12,13,14]] ?_
     refine Xq Ae ?_;refine Xq Ae ?_;refine Xq (AR (k:=k) rfl (ah rfl) (Ad rfl) (Ad rfl) rfl (by omega)) ?_;refine Xq BG ?_;refine Xq Ae ?_;refine Xq (AR (k:=i) rfl (ah rfl) (Ad rfl) (Ad rfl) rfl (by omega)) ?_;refine Xq As ?_;refine Xq Ae ?_;refine Xq Ae ?_;refine Xq (AR (k:=i) rfl (ah rfl) (Ad rfl) (Ad rfl) rfl (by omega)) ?_;refine Xq BG ?_;refine Xq Ae ?_;refine Xq (AR (k:=k) rfl (ah rfl) (Ad rfl) (Ad rfl) rfl (by omega)) ?_;refine Xq As ?_;refine Xq (Af (cc)) ?_;refine Xq Ai ?_;refine ⟨_,rfl,?_⟩
     refine Y0<|Ct<|Y1<|Wa<|Y0<|At<|Bm<|AL<|CH<|Bm<|Bm<|AL<|CH<|Bm<|AL ?_
     exact Yf
def Js(ms:List (Nat->Int)):D:=slD 60 8 (ms.map BW)
def KX(ms:List (Nat->Int))(row:Nat->Rat)(d:Rat):Nat->List Tm
 | 0=>[]
 | j+1=>if row j=0 then KX ms row d j else CV (KX ms row d j) [⟨row j/d,ms.getD j default⟩]
theorem LS{a b:Rat}(ha:a≠0)(hb:b≠0):a/b≠0:=λe=>ha (by
 have:a/b*b=a:=by rw [Rat.div_def,Rat.mul_assoc,Rat.inv_mul_cancel _ hb,Rat.mul_one]
 rw [e,Rat.zero_mul] at this
 exact this.symm)
theorem Fv{a:Rat}(h:a≠0):a.num≠0:=λe=>h (Rat.num_eq_zero.1 e)
theorem RSz.divQ{p q:Rat}{N M:Nat}(hp:RSz p N)(hq:RSz q M)(h:q≠0):RSz (p/q) (N+M):=by
 rw [Rat.div_def];exact hp.mul (hq.inv (Fv h))
theorem RSz.subQ{p q:Rat}{N M:Nat}(hp:RSz p N)(hq:RSz q M):RSz (p-q) (N+M+1):=by
 rw [Rat.sub_eq_add_neg];exact hp.add hq.neg
theorem Sn{ms:List (Nat->Int)}{row:Nat->Rat}{d:Rat}{S:Nat}{e:Int}(hm:∀m∈ms,In8 m 0 e)(hr:∀j,RSz (row j) S)(hd:RSz d S)(h0:d≠0):∀j,j<=ms.length->PB (KX ms row d j) j (j*(S+S+1)) e
 | 0,_=>PB.nil
 | j+1,hj=>by
  have ih:=Sn hm hr hd h0 j (by omega)
  rw [KX]
  split
  .exact ih.mono (by omega) (Nat.mul_le_mul_right _ (by omega)) (Int.le_refl _)
  .rename_i hz
   have hmj:ms.getD j default∈ms:=by
    rw [List.getD_eq_getElem?_getD,List.getElem?_eq_getElem (by omega)]
    exact List.getElem_mem _
   have h1:PB [⟨row j/d,ms.getD j default⟩] 1 (S+S) e:=GH (LS hz h0) ((hr j).divQ hd h0) (hm _ hmj)
   exact (ih.add h1).mono (Nat.le_refl _) (by rw [Nat.succ_mul];omega) (by omega)
theorem Sm(ms:List (Nat->Int))(row:Nat->Rat)(d:Rat)(n S:Nat)(e:Int)(hn:ms.length=n)(hn1:n<=100)(hm:∀m∈ms,In8 m 0 e)(he:e<=65535)(hr:∀j,RSz (row j) S)(hd:RSz d S)(h0:d≠0)(hS:S<=10000000)(L:List HE)(i b c:Nat)(hi:L[i]? = some ⟨b,42,Bg row n⟩) :
  Con Tryz.prog 35 [.d (Js ms),.d (sX b n c),.d (BF (Bz d))] [.obj (Bj L)] [] (λr hp'=>r = .d (BF (sqC ⟨d,KX ms row d n⟩))/\∃(T1 T2:TypeId) (c1 c2:List D),hp'=[.obj (Bj L),.dead,.var T1 (c1.map .d),.var T2 (c2.map .d)]):=by
 refine IX Tryz.func35 rfl (AG Tryz.func35 (by kernel_rfl) (by kernel_rfl)) rfl λs0 pv0=>?_
 rw [Tryz.ntmps35]
 apply Y1;refine Bx ?_;refine Al ?_;refine Y0<|Y1<|Wa<|Y0<|Aa<|Y1<|Wm ?_;refine Wq (Fj (ao rfl) (Ad rfl)) ?_;refine Wm<|Y0<|AWp.block ?_
 refine AQ (λmz σ=>∃k,k<=n/\mz=n-k/\σ=⟨[(0,.d (Js ms)),(5,.ptr 2 0),(6,.ptr 3 0),(7,.d (Bp (KX ms row d k))),(12,.d (sX b n c)),(13,.d (ex (.int .i64 (n:Nat)))),(14,.d (ex (.int .i64 (k:Nat))))],[.obj (Bj L),.pin [(pv0,.own 0)],.var 42 ((Bz d).map .d),.var 46 (([ex (.bool false),ex (.slice none 0 0),ex (.bool false),ex (.slice none 0 0),ex (.slice none 0 0)]:List D).map .d)]⟩) ?le ⟨0,by omega,rfl,rfl⟩ ?round
 case le=>exact Ak (by exact Yd<|Yp<|Yp<|FrLe.cons rfl (AVle.le Fp)<|Yd<|Yd<|Yd<|FrLe.nil) (by exact HpLe.cons (OwLe.obj rfl)<|HpLe.cons (BA rfl)<|Yv<|Yv<|HpLe.nil)
 case round=>
  rintro mz _ ⟨k,hk,rfl,rfl⟩
  by_cases hlt:k<n
  .have hb:=Sn (ms:=ms) hm hr hd h0 k (by omega)
   have hkS:k*(S+S+1)<=100*20000001:=Nat.mul_le_mul (by omega) (by omega)
   by_cases hz:row k=0
   .have hs:(row k).num.sign=0:=by rw [hz]; rfl
    have e1:KX ms row d (k+1)=KX ms row d k:=by rw [KX,if_pos hz]
    apply Y1;refine Wq Ai ?_;refine Y0<|Aa<|Ct<|Ys<|Aa<|AWp.block<|Y1<|Wm ?_;refine Wq (BE (k:=k) (ao rfl) (ao rfl) (Ad rfl) (Ad rfl) hlt) ?_;refine Wq (Du (e:=⟨b,42,Bg row n⟩) 0 i (ao rfl) rfl hi (Ad rfl) rfl (BH hlt)) ?_;refine Al ?_;refine Wa ?_;refine Sf ?_;refine Y0<|Aa<|Y1 ?_;refine Wq Ar ?_;refine Wq (Af (BU (row k))) ?_;refine Wq Ai ?_;refine Y0<|Ct<|AP<|AA<|AB<|Yn<|AWp.region ?_;refine Wq AH ?_;refine Wm<|AWl.nil ?_
    refine ALoop.next (n-(k+1)) (by omega) ⟨k+1,by omega,rfl,rfl⟩ ?_
    exact Ak (by exact Yd<|Yp<|Yp<|FrLe.cons rfl (AVle.le (Dq e1.symm))<|Yd<|Yd<|Yd<|FrLe.nil) (by exact HpLe.cons (OwLe.obj rfl)<|HpLe.cons (BA rfl)<|Yv<|Yv<|HpLe.nil)
   .have hs:(row k).num.sign≠0:=λe=>hz (CR.1 e)
    have e1:KX ms row d (k+1)=CV (KX ms row d k) [⟨row k/d,ms.getD k default⟩]:=by rw [KX,if_neg hz]
    have hmj:ms.getD k default∈ms:=by
     rw [List.getD_eq_getElem?_getD,List.getElem?_eq_getElem (by omega)]
     exact List.getElem_mem _
    have h1:PB [⟨row k/d,ms.getD k default⟩] 1 (S+S) e:=GH (LS hz h0) ((hr k).divQ hd h0) (hm _ hmj)
    have hkl:k<ms.length:=by omega
    apply Y1;refine Wq Ai ?_;refine Y0<|Aa<|Ct<|Ys<|Aa<|AWp.block<|Y1<|Wm ?_;refine Wq (BE (k:=k) (ao rfl) (ao rfl) (Ad rfl) (Ad rfl) hlt) ?_;refine Wq (Du (e:=⟨b,42,Bg row n⟩) 0 i (ao rfl) rfl hi (Ad rfl) rfl (BH hlt)) ?_;refine Al ?_;refine Wa ?_;refine Sf ?_;refine Y0<|Aa<|Y1 ?_;refine Wq Ar ?_;refine Wq (Af (BU (row k))) ?_;refine Wq Aj ?_;refine Y0<|Cf<|Ys<|Y1 ?_;refine Wq Ar ?_;refine Wq Ar ?_;refine Wq (Af (UT (row k) d S S (hr k) hd (by omega) (Fv h0))) ?_;refine Wm ?_;refine Wq Bd ?_;refine Wq Bd ?_;refine Al ?_;refine Sf ?_;refine Wa<|Y0 ?_
    refine Dr [[],[],[],[],[(30,2),(31,3)],[(32,4)],[(29,1),(33,5)],[(34,6)],[(28,0),(35,7)]] [[],[],[],[],[2,3],[2,3,4],[1,2,3,4,5],[1,2,3,4,5,6],[0,1,2,3,4,5,6,7]] ?_
    refine Xq Ae ?_;refine Xq Ar ?_;refine Xq Ae ?_;refine Xq Ae ?_;refine Xq AC ?_;refine Xq As ?_;(refine Hq rfl ?_;refine BR (Ad rfl) rfl rfl rfl ?_;(repeat ((first | refine ⟨_,AO (ah rfl),?_⟩ | refine ⟨_,Po rfl,?_⟩);refine ⟨_,rfl,?_⟩));refine ⟨_,rfl,?_⟩;refine ⟨_,rfl,?_⟩);(refine Xq (BJ (ah rfl) (Ad rfl) (Ad rfl) rfl rfl rfl rfl rfl) ?_);refine Xq (Af (JH hb h1 (by omega) (by omega))) ?_;refine ⟨_,rfl,?_⟩
    refine Wa<|AWl.nil<|Ah<|Yn<|AWp.region ?_;refine Wq AH ?_;refine Wm<|AWl.nil ?_
    refine ALoop.next (n-(k+1)) (by omega) ⟨k+1,by omega,rfl,rfl⟩ ?_
    exact Ak (by exact Yd<|Yp<|Yp<|FrLe.cons rfl (AVle.le (Dq e1.symm))<|Yd<|Yd<|Yd<|FrLe.nil) (by exact HpLe.cons (OwLe.obj rfl)<|HpLe.cons (BA rfl)<|Yv<|Yv<|HpLe.nil)
  .obtain rfl:k=n:=by omega
   apply Y1;refine Wq Aj ?_;refine Y0<|Aa<|Cf<|AP<|AA<|AF<|AB<|Yn<|Y1 ?_;refine Wq Ar ?_;refine Wm ?_;(refine Cr rfl rfl ?_;(refine BR (Ad rfl) rfl rfl rfl ?_;(repeat ((first | refine ⟨_,AO (ao rfl),?_⟩ | refine ⟨_,Po rfl,?_⟩);refine ⟨_,rfl,?_⟩));refine ⟨_,rfl,?_⟩));refine Sf ?_;refine Y0<|At ?_
   refine Et (RetsA.d (Rets.of1 (ResV.cell rfl rfl (Ad rfl) rfl rfl rfl) (D.le.refl _))) rfl ?_ rfl
   exact ⟨rfl,_,_,_,_,rfl⟩
section
variable {P:Program} {s0:An} {n:Nat} {ops:Array Oper} {Q:Exit->AS->Prop} {rest:List Oper} {fr:List (Nat×AV)} {hp:List Ow} {ty:TypeId} {ps:String} {af:Array Edge}
theorem Xk{x y:Operand}{t T bytes id m b e c0 T0:Nat}{z z':Value}{d:TypeDesc}{fr':List (Nat×AV)}{hpf:Nat->List Ow}{L:List HE}{g0:Nat}(id2 i:Nat)(f:Nat->Rat)(len:Nat)(hx:AS.arg ⟨fr,hp⟩ x = .own id)(hh:hp[id]? = some (.row T 4 []))(h0:0<len)(hy:AS.arg ⟨fr,hp⟩ y = .d (sX g0 len c0))(hh2:hp[id2]? = some (.obj (Bj L)))(hi:L[i]? = some ⟨g0,T0,Bg f len⟩)
  (ht:Tab P t (.slice T) m b z') (hT:Tab P T d 4 bytes z) (hzs:z.cells.size=4) (hd:Nat.blt e n=true) (hbytes:Nat.ble bytes 65536=true) (hl:len<=1000000) (hf:DW id (slD T 4 []) fr=some fr') (hpl:PlainHp id hp) (hs:∀g,DI hp id (.obj (Bj [⟨g,T,Bg f len⟩]))=some (hpf g))
  (h:∀g c,len<=c->AWl P s0 n ops Q rest ⟨(e,.d (sX g len c))::fr',hpf g⟩):AWl P s0 n ops Q (⟨some e,.call { callee:=.builtin .append,args:=#[x,y],argTypes:=#[t,t] },ty,ps,af,none⟩::rest) ⟨fr,hp⟩:=by
 have hlr:((List.range len).map λj=>Bz (f j)).length=len:=by simp
 have hb:bytes<=65536:=by simpa [Nat.ble_eq] using hbytes
 refine A1v id2 i ((List.range len).map λj=>Bz (f j)) hx hh (λk hk=>?_) (by rw [hlr];exact h0) hy hlr.symm hh2 hi ht hT hzs hd ?_ (by rw [hlr];omega) hf hpl hs λg c hc=>?_
 .rw [hlr] at hk
  rw [List.getD_eq_getElem?_getD,List.getElem?_map,List.getElem?_range hk]
  exact Dh _
 .rw [hlr]
  exact Nat.le_trans (Nat.mul_le_mul hl hb) (by decide)
 .rw [hlr] at hc ⊢
  exact h g c hc
theorem TI{x y:Operand}{t T bytes id m b e:Nat}{z z':Value}{d:TypeDesc}{fr':List (Nat×AV)}{hpf:Nat->List Ow}(f:Nat->Rat)(len:Nat)(hx:AS.arg ⟨fr,hp⟩ x = .own id)(hh:hp[id]? = some (.row T 4 []))(h0:0<len)(hy:Ew hp (AS.arg ⟨fr,hp⟩ y)=some (Jl f len))
  (ht:Tab P t (.slice T) m b z') (hT:Tab P T d 4 bytes z) (hzs:z.cells.size=4) (hd:Nat.blt e n=true) (hbytes:Nat.ble bytes 65536=true) (hl:len<=1000000) (hf:DW id (slD T 4 []) fr=some fr') (hpl:PlainHp id hp) (hs:∀g,DI hp id (.obj (Bj [⟨g,T,Bg f len⟩]))=some (hpf g))
  (h:∀g c,len<=c->AWl P s0 n ops Q rest ⟨(e,.d (sX g len c))::fr',hpf g⟩):AWl P s0 n ops Q (⟨some e,.call { callee:=.builtin .append,args:=#[x,y],argTypes:=#[t,t] },ty,ps,af,none⟩::rest) ⟨fr,hp⟩:=by
 have hlr:((List.range len).map λj=>Bz (f j)).length=len:=by simp
 have hb:bytes<=65536:=by simpa [Nat.ble_eq] using hbytes
 refine A1w (r2:=(List.range len).map λj=>Bz (f j)) hx hh (λk hk=>?_) (by rw [hlr];exact h0) hy ht hT hzs hd ?_ (by rw [hlr];omega) hf hpl hs λg c hc=>?_
 .rw [hlr] at hk
  rw [List.getD_eq_getElem?_getD,List.getElem?_map,List.getElem?_range hk]
  exact Dh _
 .rw [hlr]
  exact Nat.le_trans (Nat.mul_le_mul hl hb) (by decide)
 .rw [hlr] at hc ⊢
  exact h g c hc
end
theorem FO{x y z:AS}(h:AS.le x y)(h':AS.le y z):AS.le x z:=λs0 n a w hs=>h' s0 n a w (h s0 n a w hs)
def Gq(M:Nat->Nat->Rat)(p a q:Nat):Rat:=M a q-M p a/M p p*M p q
def FP(M:Nat->Nat->Rat)(p k i a q:Nat):Rat:=if a<k\/(a=k/\q<i) then Gq M p a q else M a q
theorem Vs(M:Nat->Nat->Rat)(p:Nat):FP M p 0 0=M:=by
 funext a q
 rw [FP,if_neg (by omega)]
theorem Um{M:Nat->Nat->Rat}{p k i:Nat}:FP M p k i k i=M k i:=by rw [FP,if_neg (by omega)]
theorem Vt(M:Nat->Nat->Rat)(p k i:Nat):Sh (FP M p k i) k i (FP M p k i k i-M p k/M p p*M p i)=FP M p k (i+1):=by
 funext a q
 rw [Um]
 unfold Sh DS
 by_cases h:a=k
 .subst h
  rw [if_pos rfl]
  by_cases hq:q=i
  .subst hq
   rw [if_pos rfl,FP,if_pos (by omega)]
   rfl
  .rw [if_neg hq]
   unfold FP
   by_cases hc:q<i
   .rw [if_pos (by omega),if_pos (by omega)]
   .rw [if_neg (by omega),if_neg (by omega)]
 .rw [if_neg h]
  unfold FP
  by_cases hc:a<k
  .rw [if_pos (by omega),if_pos (by omega)]
  .rw [if_neg (by omega),if_neg (by omega)]
theorem Ya{M:Nat->Nat->Rat}{p k n a q:Nat}(hq:q<n):FP M p k n a q=FP M p (k+1) 0 a q:=by
 unfold FP
 by_cases hc:a<k+1
 .rw [if_pos (by omega),if_pos (by omega)]
 .rw [if_neg (by omega),if_neg (by omega)]
theorem Yb{M:Nat->Nat->Rat}{p n a q:Nat}(ha:a<n):FP M p n 0 a q=Gq M p a q:=by
 rw [FP,if_pos (by omega)]
theorem A0q{M:Nat->Nat->Rat}{p S:Nat}(hM:∀i j,RSz (M i j) S)(h0:M p p≠0):∀i j,RSz (Gq M p i j) (S+(S+S+S)+1):=λi j=>(hM i j).subQ (((hM p i).divQ (hM p p) h0).mul (hM p j))
theorem Sz(n p S b0 c0:Nat)(b c:Nat->Nat)(M:Nat->Nat->Rat)(hp:p<n)(hn:n<=100)(hM:∀i j,RSz (M i j) S)(hS:S<=10000000)(h0:M p p≠0) :
  Con Tryz.prog 36 [.d (sX b0 n c0),.d (ex (.int .i64 (p:Nat)))] [.obj (Bj (DT b0 n n b c M))] [] (λr hp'=>r = .d Dp/\∃g,hp'=[.obj (Bj (DT b0 n n b c (Gq M p))),.dead,.obj (Bj [⟨g,42,Bg (M p) n⟩])]):=by
 have hnp:0<n:=by omega
 have hn1:n<=1000000:=by omega
 refine IX Tryz.func36 rfl (AG Tryz.func36 (by kernel_rfl) (by kernel_rfl)) rfl λs0 pv0=>?_
 rw [Tryz.ntmps36]
 apply Y1;refine EA (Ad rfl) (Ad rfl) rfl rfl rfl rfl rfl ?_;refine Wm<|Wm ?_;refine Wq (BE (k:=p) (ao rfl) (ao rfl) (Ad rfl) (Ad rfl) hp) ?_;refine Wq (Dy 0 0 (ao rfl) rfl CS (Ad rfl) rfl (CN hp (Nat.le_refl n))) ?_;(refine Xk 0 (p+1) (M p) n (ao rfl) rfl hnp (ao rfl) rfl (Dc hp) (Ad rfl) (Ad rfl) rfl rfl rfl hn1 rfl (by first | ((repeat (first | exact PlainHp.nil | refine PlainHp.var ?_ | refine CW ?_ | refine PlainHp.dead ?_ | refine PlainHp.obj ?_ | refine PlainHp.pin rfl ?_ | refine CE rfl ?_));done) | fail) (λg=>rfl) λg cg hcg=>?_);refine Wa<|Y0<|Y1<|Wm ?_;refine Wq (Fj (ao rfl) (Ad rfl)) ?_;refine Wm<|Y0<|AWp.block ?_
 refine AQ (λmz σ=>∃k,k<=n/\mz=n-k/\σ=⟨[(0,.d (sX b0 n c0)),(1,.d (ex (.int .i64 (p:Nat)))),(4,.d (sX g n cg)),(15,.d (sX b0 n c0)),(16,.d (ex (.int .i64 (n:Nat)))),(17,.d (ex (.int .i64 (k:Nat))))],[.obj (Bj (DT b0 n n b c (FP M p k 0))),.pin [(pv0,.own 0)],.obj (Bj [⟨g,42,Bg (M p) n⟩])]⟩) ?le ⟨0,by omega,rfl,rfl⟩ ?round
 case le=>exact Ak (by exact Yd<|Yd<|Yd<|Yd<|Yd<|Yd<|FrLe.nil) (by exact HpLe.cons (OwLe.obj (by rw [Vs]))<|HpLe.cons (BA rfl)<|HpLe.cons (OwLe.obj rfl)<|HpLe.nil)
 case round=>
  rintro mz _ ⟨k,hk,rfl,rfl⟩
  by_cases hlt:k<n
  .apply Y1;refine Wq Ai ?_;refine Y0<|Aa<|Ct<|Ys<|Aa<|AWp.block<|Y1<|Wm<|Wa<|Y0<|Aa ?_
   refine Hc (DR (e:=11) (by kernel_rfl) (K4 (K4 (K4 (AddE.keep (AddE.add (AddE.keep AddE.nil)))))) (by kernel_rfl)) [[],[],[(21,0),(22,1)],[(23,2)],[],[],[(25,4),(26,5)],[(27,6)],[(24,3),(28,7)],[(29,8)],[(20,9)],[(20,9)],[]] [[],[],[0,1],[0,1,2],[],[],[4,5],[4,5,6],[0,1,2,3,4,5,6,7],[0,1,2,3,4,5,6,7,8],[0,1,2,3,4,5,6,7,8,9],[0,1,2,3,4,5,6,7,8,9],[]] rfl (by kernel_rfl) (by kernel_rfl) (by kernel_rfl) ?_
   refine Xq Ae ?_;refine Xq Ae ?_;refine Xq (BE (k:=k) (ah rfl) (ah rfl) (Ad rfl) (Ad rfl) hlt) ?_;refine Xq (Du (e:=⟨g,42,Bg (M p) n⟩) 2 0 (ah rfl) rfl rfl (Ad rfl) rfl (BH hlt)) ?_;refine Xq Ae ?_;refine Xq Ae ?_;refine Xq (BE (k:=p) (ah rfl) (ah rfl) (Ad rfl) (Ad rfl) hp) ?_;refine Xq (Du (e:=⟨g,42,Bg (M p) n⟩) 2 0 (ah rfl) rfl rfl (Ad rfl) rfl (BH hp)) ?_;refine Xq (Af (UT (M p k) (M p p) S S (hM p k) (hM p p) (by omega) (Fv h0))) ?_;refine Xq Ae ?_;refine Xq Bd ?_;refine Xq Bd ?_;refine Xn ?_;refine ⟨_,rfl,?_⟩
   refine Sf ?_;refine Wa<|AWl.nil ?_;apply OnlyN.mk';refine Yn<|Y1<|Wm<|Wm ?_;refine Wq (BE (k:=k) (ao rfl) (ao rfl) (Ad rfl) (Ad rfl) hlt) ?_;refine Wq (Dy 0 0 (ao rfl) rfl CS (Ad rfl) rfl (CN hlt (Nat.le_refl n))) ?_;refine Wq (Fj (ao rfl) (Ad rfl)) ?_;refine Wm<|Y0<|AWp.block ?_
   refine AQ (λmz σ=>∃i,i<=n/\mz=n-i/\σ=⟨[(0,.d (sX b0 n c0)),(1,.d (ex (.int .i64 (p:Nat)))),(4,.d (sX g n cg)),(15,.d (sX b0 n c0)),(16,.d (ex (.int .i64 (n:Nat)))),(17,.d (ex (.int .i64 (k:Nat)))),(5,.d (ex (.int .i64 (k:Nat)))),(6,.ptr 3 0),(35,.d (sX (b k) n (c k))),(36,.d (ex (.int .i64 (n:Nat)))),(37,.d (ex (.int .i64 (i:Nat))))],[.obj (Bj (DT b0 n n b c (FP M p k i))),.pin [(pv0,.own 0)],.obj (Bj [⟨g,42,Bg (M p) n⟩]),.var 42 ((Bz (M p k/M p p)).map .d)]⟩) ?lei ⟨0,by omega,rfl,rfl⟩ ?roundi
   case lei=>exact Ak (by exact Yd<|Yd<|Yd<|Yd<|Yd<|Yd<|Yd<|Yp<|Yd<|Yd<|Yd<|FrLe.nil) (by exact HpLe.cons (OwLe.obj rfl)<|HpLe.cons (BA rfl)<|HpLe.cons (OwLe.obj rfl)<|Yv<|HpLe.nil)
   case roundi=>
    rintro mz _ ⟨i,hi,rfl,rfl⟩
    by_cases hlti:i<n
    .have hz:RSz (FP M p k i k i) S:=by rw [Um]; exact hM k i
     have hf:RSz (M p k/M p p) (S+S):=(hM p k).divQ (hM p p) h0
     apply Y1;refine Wq Ai ?_;refine Y0<|Aa<|Ct<|Ys<|Aa<|AWp.block<|Y1<|Wm<|Wa<|Y0 ?_
     refine Dr [[],[],[(40,0),(41,1)],[(42,2)],[],[],[],[(45,5),(46,6)],[(47,7)],[],[(48,8),(49,9)],[(50,10)],[],[],[],[(53,13),(54,14)],[(55,15)],[(52,12),(56,16)],[(51,11),(57,17)],[(43,3),(44,4)]] [[],[],[0,1],[0,1,2],[],[],[],[5,6],[5,6,7],[],[5,6,7,8,9],[5,6,7,8,9,10],[],[],[],[13,14],[13,14,15],[12,13,14,15,16],[5,6,7,8,9,10,11,12,13,14,15,16,17],[0,1,2,3,4,5,6,7,8,9,10,11,12,13,14,15,16,17,18]] ?_
     refine Xq Ae ?_;refine Xq Ae ?_;refine Xq (BE (k:=k) (ah rfl) (ah rfl) (Ad rfl) (Ad rfl) hlt) ?_;refine Xq (Dy 0 0 (ah rfl) rfl CS (Ad rfl) rfl (CN hlt (Nat.le_refl n))) ?_;refine Xq Ae ?_;refine Xq Ae ?_;refine Xq Ae ?_;refine Xq (BE (k:=k) (ah rfl) (ah rfl) (Ad rfl) (Ad rfl) hlt) ?_;refine Xq (Dy 0 0 (ah rfl) rfl CS (Ad rfl) rfl (CN hlt (Nat.le_refl n))) ?_;refine Xq Ae ?_;refine Xq (BE (k:=i) (ah rfl) (ah rfl) (Ad rfl) (Ad rfl) hlti) ?_;refine Xq (Du (e:=⟨b k,42,Bg (FP M p k i k) n⟩) 0 (k+1) (ah rfl) rfl (Dc hlt) (Ad rfl) rfl (BH hlti)) ?_;refine Xq Ar ?_;refine Xq Ae ?_;refine Xq Ae ?_;refine Xq (BE (k:=i) (ah rfl) (ah rfl) (Ad rfl) (Ad rfl) hlti) ?_;refine Xq (Du (e:=⟨g,42,Bg (M p) n⟩) 2 0 (ah rfl) rfl rfl (Ad rfl) rfl (BH hlti)) ?_;refine Xq (Af (UR (M p k/M p p) (M p i) (S+S) S hf (hM p i) (by omega))) ?_;refine Xq (Af (A14 (FP M p k i k i) (M p k/M p p*M p i) S (S+S+S) hz (hf.mul (hM p i)) (by omega))) ?_;refine Xq (BE (k:=i) (ah rfl) (ah rfl) (Ad rfl) (Ad rfl) hlti) ?_;refine ⟨_,rfl,?_⟩
     refine EH (e:=⟨b k,42,Bg (FP M p k i k) n⟩) 0 (k+1) (ao rfl) (ao rfl) rfl (Dc hlt) (Ad rfl) rfl (DH hlti) rfl ?_;refine AWl.nil<|Ah<|Yn<|AWp.region ?_;refine Wq AH ?_;refine Wm<|AWl.nil ?_
     refine ALoop.next (n-(i+1)) (by omega) ⟨i+1,by omega,rfl,rfl⟩ ?_
     exact Ak (by exact Yd<|Yd<|Yd<|Yd<|Yd<|Yd<|Yd<|Yp<|Yd<|Yd<|Yd<|FrLe.nil) (by exact HpLe.cons (OwLe.obj (by rw [VR hlt,Vt]))<|HpLe.cons (BA rfl)<|HpLe.cons (OwLe.obj rfl)<|Yv<|HpLe.nil)
    .obtain rfl:n=i:=by omega
     apply Y1;refine Wq Aj ?_;refine Y0<|Aa<|Cf<|AP<|AA<|AF<|AB<|Ah<|Yn<|AWp.region ?_;refine Wq AH ?_;refine Wm<|AWl.nil ?_
     refine ALoop.next (n-(k+1)) (by omega) ⟨k+1,by omega,rfl,rfl⟩ ?_
     exact Ak (by exact Yd<|Yd<|Yd<|Yd<|Yd<|Yd<|FrLe.nil) (by exact HpLe.cons (OwLe.obj (by rw [KB λa ha q hq=>Ya hq]))<|HpLe.cons (BA rfl)<|HpLe.cons (OwLe.obj rfl)<|HpLe.nil)
  .obtain rfl:n=k:=by omega
   apply Y1;refine Wq Aj ?_;refine Y0<|Aa<|Cf<|AP<|AA<|AF<|AB ?_
   refine RV Te rfl ?_ rfl
   exact ⟨rfl,g,by rw [KB (M:=FP M p n 0) λa ha q hq=>Yb ha]⟩
def UJ(r c:Nat):Nat:=if r=0 then 0 else c
theorem Ze(r c:Nat)(M:Nat->Nat->Rat)(hr:r<=1000):Abs Tryz.prog 62 [BY r c M] (ex (.int .i64 (UJ r c:Nat))):=by
 by_cases h:r=0
 .subst h
  refine Ab Tryz.func62 λs0=>?_
  rw [Tryz.ntmps62]
  refine Y1<|Wa<|Y0<|Aa<|Y1<|Wm ?_;refine Wq (Bi rfl (Ad rfl)) ?_;refine Wq Ai ?_;refine Y0<|Ct<|Y1<|Wa<|Y0<|At<|AL ?_
  exact Yf
 .have h0:0<r:=by omega
  have e:UJ r c=c:=if_neg h
  rw [e]
  refine Ab Tryz.func62 λs0=>?_
  rw [Tryz.ntmps62]
  refine Y1<|Wa<|Y0<|Aa<|Y1<|Wm ?_;refine Wq (Bi rfl (Ad rfl)) ?_;refine Wq Aj ?_;refine Y0<|Cf<|Ys<|Y1<|Wm ?_;refine Wq (AR (k:=0) rfl (ao rfl) (Ad rfl) (Ad rfl) rfl h0) ?_;refine Wq BG ?_;refine Wq (Bi rfl (Ad rfl)) ?_;refine Wa<|Y0<|At ?_
  exact Yf
theorem WD(n:Nat)(M:Nat->Nat->Rat)(hn:n<=1000)(h:∀i,i<n->∀j,j<i->M i j=M j i):Abs Tryz.prog 29 [BY n n M] (ex (.bool true)):=by
 refine Ab Tryz.func29 λs0=>?_
 rw [Tryz.ntmps29]
 refine Y1<|Wa<|Y0<|Aa<|Y1<|Wa<|Y0<|AWp.block ?_
 refine AQ (λmz σ=>∃k,k<=n/\mz=n-k/\σ=⟨[(0,.d (BY n n M)),(3,.d (ex (.int .i64 (k:Nat))))],[]⟩) ?le ⟨0,by omega,rfl,rfl⟩ ?round
 case le=>exact Ak (by exact Yd<|Yd<|FrLe.nil) (by exact HpLe.nil)
 case round=>
  rintro mz _ ⟨k,hk,rfl,rfl⟩
  by_cases hlt:k<n
  .refine Aa<|Y1<|Wm<|Wm ?_;refine Wq (Bi rfl (Ad rfl)) ?_;refine Wq Ai ?_;refine Y0<|Ct<|Ys<|Aa<|AWp.block<|Y1<|Wa<|Y0<|AWp.block ?_
   refine AQ (λmz σ=>∃i,i<=k/\mz=k-i/\σ=⟨[(0,.d (BY n n M)),(3,.d (ex (.int .i64 (k:Nat)))),(4,.d (ex (.int .i64 (i:Nat))))],[]⟩) ?lei ⟨0,by omega,rfl,rfl⟩ ?roundi
   case lei=>exact Ak (by exact Yd<|Yd<|Yd<|FrLe.nil) (by exact HpLe.nil)
   case roundi=>
    rintro mz _ ⟨i,hi,rfl,rfl⟩
    by_cases hlti:i<k
    .have cc:=KM (h k hlt i hlti)
     have hin:i<n:=by omega
     refine Aa<|Y1<|Wm<|Wm ?_;refine Wq Ai ?_;refine Y0<|Ct<|Ys<|Aa<|AWp.block<|Aa ?_
     refine Dr [[],[],[(16,0),(17,1)],[(18,2)],[],[(19,3),(20,4)],[(21,5)],[],[],[(23,7),(24,8)],[(25,9)],[],[(26,10),(27,11)],[(28,12)],[(22,6),(29,13)],[(30,14)]] [[],[],[0,1],[0,1,2],[],[0,1,2,3,4],[0,1,2,3,4,5],[],[],[7,8],[7,8,9],[],[7,8,9,10,11],[7,8,9,10,11,12],[0,1,2,3,4,5,6,7,8,9,10,11,12,13],[0,1,2,3,4,5,6,7,8,9,10,11,12,13,14]] ?_
     refine Xq Ae ?_;refine Xq Ae ?_;refine Xq (AR (k:=k) rfl (ah rfl) (Ad rfl) (Ad rfl) rfl hlt) ?_;refine Xq BG ?_;refine Xq Ae ?_;refine Xq (AR (k:=i) rfl (ah rfl) (Ad rfl) (Ad rfl) rfl hin) ?_;refine Xq As ?_;refine Xq Ae ?_;refine Xq Ae ?_;refine Xq (AR (k:=i) rfl (ah rfl) (Ad rfl) (Ad rfl) rfl hin) ?_;refine Xq BG ?_;refine Xq Ae ?_;refine Xq (AR (k:=k) rfl (ah rfl) (Ad rfl) (Ad rfl) rfl hlt) ?_;refine Xq As ?_;refine Xq (Af (cc)) ?_;refine Xq Bl ?_;refine ⟨_,rfl,?_⟩
     refine Y0<|Cf<|Bw<|Ah<|Yn<|AWp.region<|Wm ?_;refine Wq AH ?_;refine Wa<|AWl.nil ?_
     refine ALoop.next (k-(i+1)) (by omega) ⟨i+1,by omega,rfl,rfl⟩ ?_
     exact Ak (by exact Yd<|Yd<|Yd<|FrLe.nil) (by exact HpLe.nil)
    .obtain rfl:k=i:=by omega
     refine Aa<|Y1<|Wm<|Wm ?_;refine Wq Aj ?_;refine Y0<|Cf<|AP<|AA<|AF<|AB<|Ah<|Yn<|AWp.region<|Wm ?_;refine Wq AH ?_;refine Wa<|AWl.nil ?_
     refine ALoop.next (n-(k+1)) (by omega) ⟨k+1,by omega,rfl,rfl⟩ ?_
     exact Ak (by exact Yd<|Yd<|FrLe.nil) (by exact HpLe.nil)
  .obtain rfl:n=k:=by omega
   refine Aa<|Y1<|Wm<|Wm ?_;refine Wq (Bi rfl (Ad rfl)) ?_;refine Wq Aj ?_;refine Y0<|Cf<|AP<|AA<|AF<|AB<|Yn<|Y1<|Wa<|Y0<|At ?_
   exact Yf
def AJ(M:Nat->Nat->Rat):Nat->Nat->Nat->Rat
 | 0=>M
 | k+1=>if AJ M k k k=0 then AJ M k else Gq (AJ M k) k
def Do(ms:List (Nat->Int))(M:Nat->Nat->Rat)(n:Nat):Nat->List Sq
 | 0=>[]
 | k+1=>if AJ M k k k=0 then Do ms M n k else Do ms M n k++[⟨AJ M k k k,KX ms (AJ M k k) (AJ M k k k) n⟩]
theorem Kd(ms:List (Nat->Int))(M:Nat->Nat->Rat)(n:Nat):∀k,(Do ms M n k).length<=k
 | 0=>Nat.le_refl _
 | k+1=>by
  have ih:=Kd ms M n k
  rw [Do]
  split
  .omega
  .rw [List.length_append]
   exact Nat.succ_le_succ ih
def DF(M:Nat->Nat->Rat)(n k:Nat):Prop:=0<=AJ M k k k/\(AJ M k k k=0->∀j,j<n->AJ M k k j=0)
def EN(S:Nat):Nat->Nat
 | 0=>S
 | k+1=>EN S k+(EN S k+EN S k+EN S k)+1
theorem FE(S:Nat):∀{k n:Nat},k<=n->EN S k<=EN S n
  | k, 0, h => by obtain rfl : k = 0 := by omega
                  exact Nat.le_refl _
  | k,n+1,h=>by
    rcases Nat.lt_or_ge n k with h' | h'
    . obtain rfl:k=n+1:=by omega
      exact Nat.le_refl _
    . refine Nat.le_trans (FE S h') ?_
      rw [EN]
      omega
theorem Mj{M:Nat->Nat->Rat}{S:Nat}(hM:∀i j,RSz (M i j) S):∀k i j,RSz (AJ M k i j) (EN S k)
 | 0,i,j=>hM i j
 | k+1,i,j=>by
  have ih:=Mj hM k
  rw [AJ,EN]
  split
  .exact (ih i j).mono (by omega)
  .rename_i h
   exact A0q ih h i j
theorem VS{b0 n:Nat}{b c:Nat->Nat}{M:Nat->Nat->Rat}:[⟨b0,62,List.replicate n (ex (.slice none 0 0))⟩]=DT b0 n 0 b c M:=by
 simp only [DT,List.range_zero,List.map_nil]
 congr 2
 rw [List.map_congr_left (g:=λ_=>ex (.slice none 0 0)) λi _=>if_neg (Nat.not_lt_zero i),List.map_const',List.length_range]
theorem LD{q:Rat}(h:0<=q)(h0:q≠0):q.num.sign=1:=by
 have h1:=Rat.num_nonneg.2 h
 have h2:=Fv h0
 exact Int.sign_eq_one_of_pos (by omega)
section
variable {P:Program} {hp:List Ow} {arg:Operand->AV} {dd:Option Tmp} {ty:TypeId} {ps:String} {af:Array Edge} {gd:Option (Nat×Bool)}
theorem Gb{x:Operand}{t:TypeId}{e n b k:Nat}{z:Value}{ms:List (Nat->Int)}(hx:Ew hp (arg x)=some (Js ms))(hl:ms.length=k)(ht:Tab P t (.slice e) n b z):Quiet P hp ⟨dd,.call { callee:=.builtin .len,args:=#[x],argTypes:=#[t] },ty,ps,af,gd⟩ arg (.d (ex (.int .i64 (k:Nat)))):=by
 subst hl
 have:=JE (dd:=dd) (ty:=ty) (ps:=ps) (af:=af) (gd:=gd) hx ht
 simpa using this
end
theorem sign_neg{q:Rat}(h:q<0):q.num.sign = -1:=by
 have h1:¬0<=q.num:=λh2=>absurd (Rat.num_nonneg.1 h2) (Rat.not_le.2 h)
 exact Int.sign_eq_neg_one_of_neg (by omega)
theorem HD(n S:Nat)(e:Int)(ms:List (Nat->Int))(M:Nat->Nat->Rat)(hn0:0<n)(hn:n<=100)(hl:ms.length=n)(hm:∀m∈ms,In8 m 0 e)(he:e<=65535)(hM:∀i j,RSz (M i j) S)(hS:EN S n<=10000000)(hsy:∀i,i<n->∀j,j<i->M i j=M j i)(z:Nat)(hzn:z<=n)(hok:∀k,k<z->DF M n k)(r:D)(hend:(z=n/\r=CK [Iz (Do ms M n n),ex (.int .i64 0)])\/(z<n/\r=CK [Iz [],ex (.int .i64 280)]/\(AJ M z z z<0\/AJ M z z z=0/\∃w,w<n/\(∀j,j<w->AJ M z z j=0)/\AJ M z z w≠0))) :
  Abs Tryz.prog 8 [Js ms,BY n n M] r:=by
 have hS0:S<=10000000:=Nat.le_trans (FE S (Nat.zero_le n)) hS
 have hn1:n<=1000000:=by omega
 refine Ab Tryz.func8 λs0=>?_
 rw [Tryz.ntmps8]
 refine Y1<|Wa<|Wa<|Y0<|Y1<|Wm ?_;refine Wq (Gb rfl hl (Ad rfl)) ?_;refine Wa<|Y0<|Aa<|Y1<|Wm ?_;refine Wq (Af (IF n n M S hM (by omega) (by omega) (by omega))) ?_;refine Wq Bl ?_;refine Wm ?_;refine Wg Ae ?_;refine Wg (Bi rfl (Ad rfl)) ?_;refine Wg Ae ?_;refine Wg Aj ?_;refine Wq Az ?_;refine Wm ?_;refine Wg Ae ?_;refine Wg Ai ?_;refine Wg Ae ?_;refine Wg Ae ?_;refine Wg (AR (k:=0) rfl (ao rfl) (Ad rfl) (Ad rfl) rfl hn0) ?_;refine Wg BG ?_;refine Wg (Bi rfl (Ad rfl)) ?_;refine Wg Ae ?_;refine Wg Aj ?_;refine Wg AE ?_;refine Wq Az ?_;refine Y0<|Cf<|Ys<|Aa<|Y1<|Wm ?_;refine Wq (Af (XF n M S hM (by omega) (by omega) hsy)) ?_;refine Wq Bl ?_;refine Y0<|Cf<|Ys<|Y1<|Wm ?_;refine UV (ao rfl) (ao rfl) (Ad rfl) (Ad rfl) rfl rfl hn1 rfl rfl rfl rfl (λg=>rfl) λb0=>?_;refine Wa<|Y0<|Aa<|Y1<|Wm ?_;refine Wq (Bi rfl (Ad rfl)) ?_;refine Wm<|Y0<|AWp.block ?_
 refine AQ (λmz σ=>∃k,k<=n/\mz=n-k/\∃b c,σ=⟨[(0,.d (Js ms)),(6,.d (ex (.int .i64 (n:Nat)))),(7,.d (sX b0 n n)),(43,.d (BY n n M)),(44,.d (ex (.int .i64 (n:Nat)))),(45,.d (ex (.int .i64 (k:Nat))))],[.obj (Bj (DT b0 n k b c M))]⟩) ?le ⟨0,by omega,rfl,λ_=>0,λ_=>0,rfl⟩ ?round
 case le=>exact Ak (by exact Yd<|Yd<|Yd<|Yd<|Yd<|Yd<|FrLe.nil) (by exact HpLe.cons (OwLe.obj (by rw [VS]))<|HpLe.nil)
 case round=>
  rintro mz _ ⟨k,hk,rfl,b,c,rfl⟩
  by_cases hlt:k<n
  .refine Aa<|AWp.region ?_; refine Wq Ai ?_; refine AWl.nil<|Yn<|Aa<|Ct<|Bw<|Yn<|Aa<|AWp.block<|Aa<|AWp.region<|Wm ?_; refine Wq (AR (k:=k) rfl (ao rfl) (Ad rfl) (Ad rfl) rfl hlt) ?_; refine Wq BG ?_; refine Wa<|Wa<|AWl.nil<|Yn<|AWp.region<|Wm<|Wm ?_; refine EA (Ad rfl) (Ad rfl) rfl rfl rfl rfl rfl ?_; refine Wm ?_; (refine TI (M k) n (ao rfl) rfl hn0 rfl (Ad rfl) (Ad rfl) rfl rfl rfl hn1 rfl (by first | ((repeat (first | exact PlainHp.nil | refine PlainHp.var ?_ | refine CW ?_ | refine PlainHp.dead ?_ | refine PlainHp.obj ?_ | refine PlainHp.pin rfl ?_ | refine CE rfl ?_)); done) | fail) (λg=>rfl) λg cg hcg=>?_); refine Wq (BE (k:=k) (ao rfl) (ao rfl) (Ad rfl) (Ad rfl) hlt) ?_; refine A00 0 0 (ao rfl) (ao rfl) rfl CS (Ad rfl) (Ij rfl) (SN hlt) rfl ?_; refine AWl.nil<|Ah<|Yn<|AWp.region ?_; refine Wq AH ?_; refine Wm<|AWl.nil ?_
   refine ALoop.next (n-(k+1)) (by omega) ⟨k+1,by omega,rfl,DS b k g,DS c k cg,rfl⟩ ?_
   refine FO (Il 0 1 (by decide) rfl rfl rfl rfl) ?_
   exact Ak (by exact Yd<|Yd<|Yd<|Yd<|Yd<|Yd<|FrLe.nil) (by exact HpLe.cons (OwLe.obj (by rw [SM]))<|HpLe.nil)
  .obtain rfl:n=k:=by omega
   apply Y1;refine Wq Aj ?_;refine Y0<|Aa<|Cf<|AP<|AA<|AF<|AB<|Yn<|Y1<|Wa<|Y0<|Aa<|Y1<|Wm<|Wm<|Y0<|AWp.block ?_
   refine TJ 10 46 5 rfl (by decide) (by decide) rfl rfl ?_
   refine AQ (λmz σ=>∃k,k<=z/\mz=z-k/\σ=⟨[(0,.d (Js ms)),(6,.d (ex (.int .i64 (n:Nat)))),(7,.d (sX b0 n n)),(10,.own 1),(57,.d (ex (.int .i64 (n:Nat)))),(58,.d (ex (.int .i64 (k:Nat))))],[.obj (Bj (DT b0 n n b c (AJ M k))),.row 46 5 ((Do ms M n k).map sqC)]⟩) ?le ⟨0,by omega,rfl,rfl⟩ ?round
   case le=>exact Ak (by exact Yd<|Yd<|Yd<|FrLe.cons rfl (AVle.own rfl)<|Yd<|Yd<|FrLe.nil) (by exact HpLe.cons (OwLe.obj rfl)<|Yr<|HpLe.nil)
   case round=>
    rintro mz _ ⟨k,hk,rfl,rfl⟩
    by_cases hlt:k<z
    .have hlt0:=hlt
     have hlt:k<n:=by omega
     have hG:=Mj hM k;have hL:=Kd ms M n k
     have hSk:EN S k<=10000000:=Nat.le_trans (FE S (show k<=n by omega)) hS
     by_cases hz:AJ M k k k=0
     .have hs:(AJ M k k k).num.sign=0:=by rw [hz]; rfl
      have hrow:=(hok k hlt0).2 hz
      have e1:AJ M (k+1)=AJ M k:=by rw [AJ,if_pos hz]
      have e2:Do ms M n (k+1)=Do ms M n k:=by rw [Do,if_pos hz]
      apply Y1;refine Wq Ai ?_;refine Y0<|Aa<|Ct<|Ys<|Aa<|AWp.block<|Y1<|Wm<|Wa<|Y0<|Y1<|Wm<|Wm ?_;refine Wq (BE (k:=k) (ao rfl) (ao rfl) (Ad rfl) (Ad rfl) hlt) ?_;refine Wq (Dy 0 0 (ao rfl) rfl CS (Ad rfl) rfl (CN hlt (Nat.le_refl n))) ?_;refine Wm ?_;refine Wq (BE (k:=k) (ao rfl) (ao rfl) (Ad rfl) (Ad rfl) hlt) ?_;refine Wq (Du 0 (k+1) (e:=⟨b k,42,Bg (AJ M k k) n⟩) (ao rfl) rfl (Dc hlt) (Ad rfl) rfl (BH hlt)) ?_;refine Al ?_;refine Sf ?_;refine Y0<|Y1 ?_;refine Wq Ar ?_;refine Wq (Af (BU (AJ M k k k))) ?_;refine Y0<|AWp.block<|Y1 ?_;refine Wq Aj ?_;refine Wa<|Y0<|Cf<|Y1 ?_;refine Wq Ai ?_;refine Wa<|Y0<|Ct<|Y1<|Wm<|Wm ?_;refine Wq (BE (k:=k) (ao rfl) (ao rfl) (Ad rfl) (Ad rfl) hlt) ?_;refine Wq (Dy 0 0 (ao rfl) rfl CS (Ad rfl) rfl (CN hlt (Nat.le_refl n))) ?_;refine Wq (Fj (ao rfl) (Ad rfl)) ?_;refine Wm<|Y0<|AWp.block ?_
      refine AQ (λmz σ=>∃i,i<=n/\mz=n-i/\σ=⟨[(0,.d (Js ms)),(6,.d (ex (.int .i64 (n:Nat)))),(7,.d (sX b0 n n)),(10,.own 1),(57,.d (ex (.int .i64 (n:Nat)))),(58,.d (ex (.int .i64 (k:Nat)))),(90,.d (sX (b k) n (c k))),(91,.d (ex (.int .i64 (n:Nat)))),(92,.d (ex (.int .i64 (i:Nat))))],[.obj (Bj (DT b0 n n b c (AJ M k))),.row 46 5 ((Do ms M n k).map sqC)]⟩) ?lei ⟨0,by omega,rfl,rfl⟩ ?roundi
      case lei=>exact Ak (by exact Yd<|Yd<|Yd<|FrLe.cons rfl (AVle.own rfl)<|Yd<|Yd<|Yd<|Yd<|Yd<|FrLe.nil) (by exact HpLe.cons (OwLe.obj rfl)<|Yr<|HpLe.nil)
      case roundi=>
       rintro mz _ ⟨i,hi,rfl,rfl⟩
       by_cases hlti:i<n
       .have hs2:(AJ M k k i).num.sign=0:=by rw [hrow i hlti]; rfl
        apply Y1;refine Wq Ai ?_;refine Y0<|Aa<|Ct<|Ys<|Aa<|AWp.block<|Y1 ?_;refine Wq (BE (k:=i) (ao rfl) (ao rfl) (Ad rfl) (Ad rfl) hlti) ?_;refine Wq (Du 0 (k+1) (e:=⟨b k,42,Bg (AJ M k k) n⟩) (ao rfl) rfl (Dc hlt) (Ad rfl) rfl (BH hlti)) ?_;refine Al ?_;refine Sf ?_;refine Y0<|Y1 ?_;refine Wq Ar ?_;refine Wq (Af (BU (AJ M k k i))) ?_;refine Wq Aj ?_;refine Y0<|Cf<|Bw<|Ah<|Yn<|AWp.region ?_;refine Wq AH ?_;refine Wm<|AWl.nil ?_
        refine ALoop.next (n-(i+1)) (by omega) ⟨i+1,by omega,rfl,rfl⟩ ?_
        exact Ak (by exact Yd<|Yd<|Yd<|FrLe.cons rfl (AVle.own rfl)<|Yd<|Yd<|Yd<|Yd<|Yd<|FrLe.nil) (by exact HpLe.cons (OwLe.obj rfl)<|Yr<|HpLe.nil)
       .obtain rfl:n=i:=by omega
        apply Y1;refine Wq Aj ?_;refine Y0<|Aa<|Cf<|AP<|AA<|AF<|AB<|Ah<|Ah<|Yn<|AWp.region ?_;refine Wq AH ?_;refine Wm<|AWl.nil ?_
        refine ALoop.next (z-(k+1)) (by omega) ⟨k+1,by omega,rfl,rfl⟩ ?_
        exact Ak (by exact Yd<|Yd<|Yd<|FrLe.cons rfl (AVle.own rfl)<|Yd<|Yd<|FrLe.nil) (by exact HpLe.cons (OwLe.obj (by rw [e1]))<|HpLe.cons (Cg (by rw [e2]))<|HpLe.nil)
     .have hs:(AJ M k k k).num.sign=1:=LD (hok k hlt0).1 hz
      have e1:AJ M (k+1)=Gq (AJ M k) k:=by rw [AJ,if_neg hz]
      have e2:Do ms M n (k+1)=Do ms M n k++[⟨AJ M k k k,KX ms (AJ M k k) (AJ M k k k) n⟩]:=by rw [Do,if_neg hz]
      apply Y1;refine Wq Ai ?_;refine Y0<|Aa<|Ct<|Ys<|Aa<|AWp.block<|Y1<|Wm<|Wa<|Y0<|Y1<|Wm<|Wm ?_;refine Wq (BE (k:=k) (ao rfl) (ao rfl) (Ad rfl) (Ad rfl) hlt) ?_;refine Wq (Dy 0 0 (ao rfl) rfl CS (Ad rfl) rfl (CN hlt (Nat.le_refl n))) ?_;refine Wm ?_;refine Wq (BE (k:=k) (ao rfl) (ao rfl) (Ad rfl) (Ad rfl) hlt) ?_;refine Wq (Du 0 (k+1) (e:=⟨b k,42,Bg (AJ M k k) n⟩) (ao rfl) rfl (Dc hlt) (Ad rfl) rfl (BH hlt)) ?_;refine Al ?_;refine Sf ?_;refine Y0<|Y1 ?_;refine Wq Ar ?_;refine Wq (Af (BU (AJ M k k k))) ?_;refine Y0<|AWp.block<|Y1 ?_;refine Wq Aj ?_;refine Wa<|Y0<|Cf<|Y1 ?_;refine Wq Aj ?_;refine Wa<|Y0<|Cf<|Aa ?_
      refine Hc (DR (e:=0) (by kernel_rfl) (K4 (AddE.keep (AddE.keep (AddE.keep (AddE.add (AddE.keep (AddE.keep (AddE.keep AddE.nil)))))))) (by kernel_rfl)) [[],[],[],[],[(72,2),(73,3)],[(74,4)],[]] [[],[],[],[],[2,3],[2,3,4],[]] rfl (by kernel_rfl) (by kernel_rfl) (by kernel_rfl) ?_
      refine Xq Ae ?_;refine Xq Ae ?_;refine Xq Ae ?_;refine Xq Ae ?_;refine Xq (BE (k:=k) (ah rfl) (ah rfl) (Ad rfl) (Ad rfl) hlt) ?_;refine Xq (Dy 0 0 (ah rfl) rfl CS (Ad rfl) rfl (CN hlt (Nat.le_refl n))) ?_;refine Xq Ar ?_;refine ⟨_,rfl,?_⟩
      refine Kk [0] [] (Sm ms (AJ M k k) (AJ M k k k) n (EN S k) e hl hn hm he (hG k) (hG k k) hz hSk _ (k+1) (b k) (c k) (Dc hlt)) ?_
      rintro _ _ ⟨rfl,T1,T2,c1,c2,rfl⟩
      refine Kr ?_
      refine Wq (BJ (ao rfl) (Ad rfl) (Ad rfl) rfl rfl rfl rfl rfl) ?_;(refine Ap ?_);refine Wa<|AWl.nil ?_;apply OnlyN.mk';refine Yn<|AWp.region<|Wm<|Wm ?_
      refine Kk [0] [] (Sz n k (EN S k) b0 n b c (AJ M k) hlt hn hG hSk hz) ?_
      rintro _ _ ⟨rfl,g2,rfl⟩
      refine Kr ?_
      refine AWl.nil<|Ah<|Ah<|Yn<|AWp.region ?_;refine Wq AH ?_;refine Wm<|AWl.nil ?_
      refine ALoop.next (z-(k+1)) (by omega) ⟨k+1,by omega,rfl,rfl⟩ ?_
      exact Ak (by exact Yd<|Yd<|Yd<|FrLe.cons rfl (AVle.own rfl)<|Yd<|Yd<|FrLe.nil) (by refine HpLe.cons (OwLe.obj (by rw [e1])) ?_;(refine HpLe.cons (Cg (by rw [e2,List.map_append];rfl)) ?_);exact HpLe.nil)
    .obtain rfl:z=k:=by omega
     rcases hend with ⟨rfl,rfl⟩ | ⟨hz1,rfl,hneg | ⟨hneg,w,hw,hrow,hbad⟩⟩
     .apply Y1;refine Wq Aj ?_;refine Y0<|Aa<|Cf<|AP<|AA<|AF<|AB<|Yn<|Y1<|Wm<|Wa<|Wa<|Y0<|At ?_
      exact Bf (BV (ResV.tmp rfl rfl) (ResV.tmp rfl rfl) (BM (D.le.refl _) (D.le.refl _)))
     .have hs:(AJ M z z z).num.sign = -1:=sign_neg hneg
      apply Y1;refine Wq Ai ?_;refine Y0<|Aa<|Ct<|Ys<|Aa<|AWp.block<|Y1<|Wm<|Wa<|Y0<|Y1<|Wm<|Wm ?_;refine Wq (BE (k:=z) (ao rfl) (ao rfl) (Ad rfl) (Ad rfl) hz1) ?_;refine Wq (Dy 0 0 (ao rfl) rfl CS (Ad rfl) rfl (CN hz1 (Nat.le_refl n))) ?_;refine Wm ?_;refine Wq (BE (k:=z) (ao rfl) (ao rfl) (Ad rfl) (Ad rfl) hz1) ?_;refine Wq (Du 0 (z+1) (e:=⟨b z,42,Bg (AJ M z z) n⟩) (ao rfl) rfl (Dc hz1) (Ad rfl) rfl (BH hz1)) ?_;refine Al ?_;refine Sf ?_;refine Y0<|Y1 ?_;refine Wq Ar ?_;refine Wq (Af (BU (AJ M z z z))) ?_;refine Y0<|AWp.block<|Y1 ?_;refine Wq Ai ?_;refine Wa<|Y0<|Ct<|Y1<|Wa<|Wa<|Y0<|At<|Bm<|Bm<|AL<|CH<|Bm<|AL ?_
      exact Bf (BV (ResV.tmp rfl rfl) (ResV.tmp rfl rfl) (BM (DY) (D.le.refl _)))
     .have hs:(AJ M z z z).num.sign=0:=by rw [hneg]; rfl
      apply Y1;refine Wq Ai ?_;refine Y0<|Aa<|Ct<|Ys<|Aa<|AWp.block<|Y1<|Wm<|Wa<|Y0<|Y1<|Wm<|Wm ?_;refine Wq (BE (k:=z) (ao rfl) (ao rfl) (Ad rfl) (Ad rfl) hz1) ?_;refine Wq (Dy 0 0 (ao rfl) rfl CS (Ad rfl) rfl (CN hz1 (Nat.le_refl n))) ?_;refine Wm ?_;refine Wq (BE (k:=z) (ao rfl) (ao rfl) (Ad rfl) (Ad rfl) hz1) ?_;refine Wq (Du 0 (z+1) (e:=⟨b z,42,Bg (AJ M z z) n⟩) (ao rfl) rfl (Dc hz1) (Ad rfl) rfl (BH hz1)) ?_;refine Al ?_;refine Sf ?_;refine Y0<|Y1 ?_;refine Wq Ar ?_;refine Wq (Af (BU (AJ M z z z))) ?_;refine Y0<|AWp.block<|Y1 ?_;refine Wq Aj ?_;refine Wa<|Y0<|Cf<|Y1 ?_;refine Wq Ai ?_;refine Wa<|Y0<|Ct<|Y1<|Wm<|Wm ?_;refine Wq (BE (k:=z) (ao rfl) (ao rfl) (Ad rfl) (Ad rfl) hz1) ?_;refine Wq (Dy 0 0 (ao rfl) rfl CS (Ad rfl) rfl (CN hz1 (Nat.le_refl n))) ?_;refine Wq (Fj (ao rfl) (Ad rfl)) ?_;refine Wm<|Y0<|AWp.block ?_
      refine AQ (λmz σ=>∃i,i<=w/\mz=w-i/\σ=⟨[(0,.d (Js ms)),(6,.d (ex (.int .i64 (n:Nat)))),(7,.d (sX b0 n n)),(10,.own 1),(57,.d (ex (.int .i64 (n:Nat)))),(58,.d (ex (.int .i64 (z:Nat)))),(90,.d (sX (b z) n (c z))),(91,.d (ex (.int .i64 (n:Nat)))),(92,.d (ex (.int .i64 (i:Nat))))],[.obj (Bj (DT b0 n n b c (AJ M z))),.row 46 5 ((Do ms M n z).map sqC)]⟩) ?lei ⟨0,by omega,rfl,rfl⟩ ?roundi
      case lei=>exact Ak (by exact Yd<|Yd<|Yd<|FrLe.cons rfl (AVle.own rfl)<|Yd<|Yd<|Yd<|Yd<|Yd<|FrLe.nil) (by exact HpLe.cons (OwLe.obj rfl)<|Yr<|HpLe.nil)
      case roundi=>
       rintro mz _ ⟨i,hi,rfl,rfl⟩
       by_cases hlti:i<w
       .have hin:i<n:=by omega
        have hs2:(AJ M z z i).num.sign=0:=by rw [hrow i hlti];rfl
        apply Y1;refine Wq Ai ?_;refine Y0<|Aa<|Ct<|Ys<|Aa<|AWp.block<|Y1 ?_;refine Wq (BE (k:=i) (ao rfl) (ao rfl) (Ad rfl) (Ad rfl) hin) ?_;refine Wq (Du 0 (z+1) (e:=⟨b z,42,Bg (AJ M z z) n⟩) (ao rfl) rfl (Dc hz1) (Ad rfl) rfl (BH hin)) ?_;refine Al ?_;refine Sf ?_;refine Y0<|Y1 ?_;refine Wq Ar ?_;refine Wq (Af (BU (AJ M z z i))) ?_;refine Wq Aj ?_;refine Y0<|Cf<|Bw<|Ah<|Yn<|AWp.region ?_;refine Wq AH ?_;refine Wm<|AWl.nil ?_
        refine ALoop.next (w-(i+1)) (by omega) ⟨i+1,by omega,rfl,rfl⟩ ?_
        exact Ak (by exact Yd<|Yd<|Yd<|FrLe.cons rfl (AVle.own rfl)<|Yd<|Yd<|Yd<|Yd<|Yd<|FrLe.nil) (by exact HpLe.cons (OwLe.obj rfl)<|Yr<|HpLe.nil)
       .obtain rfl:w=i:=by omega
        have hs2:(AJ M z z w).num.sign≠0:=λe=>hbad (CR.1 e)
        apply Y1;refine Wq Ai ?_;refine Y0<|Aa<|Ct<|Ys<|Aa<|AWp.block<|Y1 ?_;refine Wq (BE (k:=w) (ao rfl) (ao rfl) (Ad rfl) (Ad rfl) hw) ?_;refine Wq (Du 0 (z+1) (e:=⟨b z,42,Bg (AJ M z z) n⟩) (ao rfl) rfl (Dc hz1) (Ad rfl) rfl (BH hw)) ?_;refine Al ?_;refine Sf ?_;refine Y0<|Y1 ?_;refine Wq Ar ?_;refine Wq (Af (BU (AJ M z z w))) ?_;refine Wq Ai ?_;refine Y0<|Ct<|Y1<|Wa<|Wa<|Y0<|At<|Bm<|AL<|CH<|Bm<|Bm<|Bm<|AL<|CH<|Bm<|AL ?_
        exact Bf (BV (ResV.tmp rfl rfl) (ResV.tmp rfl rfl) (BM (DY) (D.le.refl _)))
theorem Uz(n S:Nat)(e:Int)(ms:List (Nat->Int))(M:Nat->Nat->Rat)(hn0:0<n)(hn:n<=100)(hl:ms.length=n)(hm:∀m∈ms,In8 m 0 e)(he:e<=65535)(hM:∀i j,RSz (M i j) S)(hS:EN S n<=10000000)(hsy:∀i,i<n->∀j,j<i->M i j=M j i)(hok:∀k,k<n->DF M n k):Abs Tryz.prog 8 [Js ms,BY n n M] (CK [Iz (Do ms M n n),ex (.int .i64 0)]):=
 HD n S e ms M hn0 hn hl hm he hM hS hsy n (Nat.le_refl n) hok _ (.inl ⟨rfl,rfl⟩)
theorem YT(n S:Nat)(e:Int)(ms:List (Nat->Int))(M:Nat->Nat->Rat)(hn0:0<n)(hn:n<=100)(hl:ms.length=n)(hm:∀m∈ms,In8 m 0 e)(he:e<=65535)(hM:∀i j,RSz (M i j) S)(hS:EN S n<=10000000)(hsy:∀i,i<n->∀j,j<i->M i j=M j i)(z:Nat)(hz1:z<n)(hok:∀k,k<z->DF M n k)(hneg:AJ M z z z<0):Abs Tryz.prog 8 [Js ms,BY n n M] (CK [Iz [],ex (.int .i64 280)]):=
 HD n S e ms M hn0 hn hl hm he hM hS hsy z (Nat.le_of_lt hz1) hok _ (.inr ⟨hz1,rfl,.inl hneg⟩)
theorem VU(n S:Nat)(e:Int)(ms:List (Nat->Int))(M:Nat->Nat->Rat)(hn0:0<n)(hn:n<=100)(hl:ms.length=n)(hm:∀m∈ms,In8 m 0 e)(he:e<=65535)(hM:∀i j,RSz (M i j) S)(hS:EN S n<=10000000)(hsy:∀i,i<n->∀j,j<i->M i j=M j i)(z:Nat)(hz1:z<n)(hok:∀k,k<z->DF M n k)(hneg:AJ M z z z=0)(w:Nat)(hw:w<n)(hrow:∀j,j<w->AJ M z z j=0)(hbad:AJ M z z w≠0):Abs Tryz.prog 8 [Js ms,BY n n M] (CK [Iz [],ex (.int .i64 280)]):=
 HD n S e ms M hn0 hn hl hm he hM hS hsy z (Nat.le_of_lt hz1) hok _ (.inr ⟨hz1,rfl,.inr ⟨hneg,w,hw,hrow,hbad⟩⟩)
theorem VW(c n S:Nat)(hn0:0<n)(hc:c≠n)(hc1:c<=100)(hn:n<=100)(e:Int)(ms:List (Nat->Int))(M:Nat->Nat->Rat)(hl:ms.length=n)(hM:∀i j,RSz (M i j) S)(hS:S<=10000000) :
  Abs Tryz.prog 8 [Js ms,BY n c M] (CK [Iz [],ex (.int .i64 1)]):=by
 refine Ab Tryz.func8 λs0=>?_
 rw [Tryz.ntmps8]
 refine Y1<|Wa<|Wa<|Y0<|Y1<|Wm ?_;refine Wq (Gb rfl hl (Ad rfl)) ?_;refine Wa<|Y0<|Aa<|Y1<|Wm ?_;refine Wq (Af (IF n c M S hM (by omega) (by omega) (by omega))) ?_;refine Wq Bl ?_;refine Wm ?_;refine Wg Ae ?_;refine Wg (Bi rfl (Ad rfl)) ?_;refine Wg Ae ?_;refine Wg Aj ?_;refine Wq Az ?_;refine Wm ?_;refine Wg Ae ?_;refine Wg Ai ?_;refine Wg Ae ?_;refine Wg Ae ?_;refine Wg (AR (k:=0) rfl (ao rfl) (Ad rfl) (Ad rfl) rfl hn0) ?_;refine Wg BG ?_;refine Wg (Bi rfl (Ad rfl)) ?_;refine Wg Ae ?_;refine Wg Ai ?_;refine Wg AE ?_;refine Wq Az ?_;refine Y0<|Ct<|Y1<|Wa<|Wa<|Y0<|At<|AL ?_
 exact Bf (BV (ResV.tmp rfl rfl) (ResV.tmp rfl rfl) (BM (DY) (D.le.refl _)))
theorem YQ(n S:Nat)(hn0:0<n)(hn:n<=100)(e:Int)(ms:List (Nat->Int))(M:Nat->Nat->Rat)(hl:ms.length=n)(hM:∀i j,RSz (M i j) S)(hS:S<=10000000)(z w:Nat)(hz:z<n)(hw:w<z)(h:∀i,i<z->∀j,j<i->M i j=M j i)(h':∀j,j<w->M z j=M j z)(hbad:M z w≠M w z) :
  Abs Tryz.prog 8 [Js ms,BY n n M] (CK [Iz [],ex (.int .i64 112)]):=by
 refine Ab Tryz.func8 λs0=>?_
 rw [Tryz.ntmps8]
 refine Y1<|Wa<|Wa<|Y0<|Y1<|Wm ?_;refine Wq (Gb rfl hl (Ad rfl)) ?_;refine Wa<|Y0<|Aa<|Y1<|Wm ?_;refine Wq (Af (IF n n M S hM (by omega) (by omega) (by omega))) ?_;refine Wq Bl ?_;refine Wm ?_;refine Wg Ae ?_;refine Wg (Bi rfl (Ad rfl)) ?_;refine Wg Ae ?_;refine Wg Aj ?_;refine Wq Az ?_;refine Wm ?_;refine Wg Ae ?_;refine Wg Ai ?_;refine Wg Ae ?_;refine Wg Ae ?_;refine Wg (AR (k:=0) rfl (ao rfl) (Ad rfl) (Ad rfl) rfl hn0) ?_;refine Wg BG ?_;refine Wg (Bi rfl (Ad rfl)) ?_;refine Wg Ae ?_;refine Wg Aj ?_;refine Wg AE ?_;refine Wq Az ?_;refine Y0<|Cf<|Ys<|Aa<|Y1<|Wm ?_;refine Wq (Af (XG n M S hM (by omega) (by omega) z w hz hw h h' hbad)) ?_;refine Wq Bl ?_;refine Y0<|Ct<|Y1<|Wa<|Wa<|Y0<|At<|AL ?_
 exact Bf (BV (ResV.tmp rfl rfl) (ResV.tmp rfl rfl) (BM (DY) (D.le.refl _)))
theorem QS(M:Nat->Nat->Rat):Abs Tryz.prog 32 [BY 0 0 M] (ex (.bool true)):=by
 refine Ab Tryz.func32 λs0=>?_
 rw [Tryz.ntmps32]
 refine Y1<|Wa<|Y0<|Aa<|Y1<|Wm ?_;refine Wq (Bi rfl (Ad rfl)) ?_;refine Wm<|Y0<|AWp.block ?_
 refine AQ (λmz σ=>∃k,k<=0/\mz=0-k/\σ=⟨[(8,.d (ex (.int .i64 ((0:Nat):Int)))),(9,.d (ex (.int .i64 (k:Nat))))],[]⟩) ?le ⟨0,by omega,rfl,rfl⟩ ?round
 case le=>exact Ak (by exact Yd<|Yd<|FrLe.nil) (by exact HpLe.nil)
 case round=>
  rintro mz _ ⟨k,hk,rfl,rfl⟩
  by_cases hlt:k<0
  .omega
  .obtain rfl:k=0:=by omega
   apply Y1;refine Wq Aj ?_;refine Y0<|Aa<|Cf<|AP<|AA<|AF<|AB<|Yn<|Y1<|Wa<|Y0<|At ?_
   exact Yf
theorem XH(M:Nat->Nat->Rat):Abs Tryz.prog 33 [BY 0 0 M] (ex (.bool true)):=by
 refine Ab Tryz.func33 λs0=>?_
 rw [Tryz.ntmps33]
 refine Y1<|Wa<|Y0<|Aa<|Y1<|Wm ?_;refine Wq (Bi rfl (Ad rfl)) ?_;refine Wm<|Y0<|AWp.block ?_
 refine AQ (λmz σ=>∃k,k<=0/\mz=0-k/\σ=⟨[(6,.d (ex (.int .i64 ((0:Nat):Int)))),(7,.d (ex (.int .i64 (k:Nat))))],[]⟩) ?le ⟨0,by omega,rfl,rfl⟩ ?round
 case le=>exact Ak (by exact Yd<|Yd<|FrLe.nil) (by exact HpLe.nil)
 case round=>
  rintro mz _ ⟨k,hk,rfl,rfl⟩
  by_cases hlt:k<0
  .omega
  .obtain rfl:k=0:=by omega
   apply Y1;refine Wq Aj ?_;refine Y0<|Aa<|Cf<|AP<|AA<|AF<|AB<|Yn<|Y1<|Wa<|Y0<|At ?_
   exact Yf
theorem VV(M:Nat->Nat->Rat):Abs Tryz.prog 8 [Js [],BY 0 0 M] (CK [Iz [],ex (.int .i64 0)]):=by
 have hl:([]:List (Nat->Int)).length=0:=rfl
 refine Ab Tryz.func8 λs0=>?_
 rw [Tryz.ntmps8]
 refine Y1<|Wa<|Wa<|Y0<|Y1<|Wm ?_;refine Wq (Gb rfl hl (Ad rfl)) ?_;refine Wa<|Y0<|Aa<|Y1<|Wm ?_;refine Wq (Af (QS M)) ?_;refine Wq Bl ?_;refine Wm ?_;refine Wg Ae ?_;refine Wg (Bi rfl (Ad rfl)) ?_;refine Wg Ae ?_;refine Wg Aj ?_;refine Wq Az ?_;refine Wm ?_;refine Wg Ae ?_;refine Wg Aj ?_;refine Wg Ae ?_;refine Ws ?_;refine Ws ?_;refine Ws ?_;refine Ws ?_;refine Ws ?_;refine Ws ?_;refine Wg Az ?_;refine Wq Az ?_;refine Y0<|Cf<|Ys<|Aa<|Y1<|Wm ?_;refine Wq (Af (XH M)) ?_;refine Wq Bl ?_;refine Y0<|Cf<|Ys<|Y1<|Wm ?_;refine UV (c:=0) (ao rfl) (ao rfl) (Ad rfl) (Ad rfl) rfl rfl (by omega) rfl rfl rfl rfl (λg=>rfl) λb0=>?_;refine Wa<|Y0<|Aa<|Y1<|Wm ?_;refine Wq (Bi rfl (Ad rfl)) ?_;refine Wm<|Y0<|AWp.block ?_
 refine AQ (λmz σ=>∃k,k<=0/\mz=0-k/\σ=⟨[(6,.d (ex (.int .i64 ((0:Nat):Int)))),(44,.d (ex (.int .i64 ((0:Nat):Int)))),(45,.d (ex (.int .i64 (k:Nat))))],[]⟩) ?le ⟨0,by omega,rfl,rfl⟩ ?round
 case le=>exact Ak (by exact Yd<|Yd<|Yd<|FrLe.nil) (by exact HpLe.nil)
 case round=>
  rintro mz _ ⟨k,hk,rfl,rfl⟩
  by_cases hlt:k<0
  .omega
  .obtain rfl:k=0:=by omega
   apply Y1;refine Wq Aj ?_;refine Y0<|Aa<|Cf<|AP<|AA<|AF<|AB<|Yn<|Y1<|Wa<|Y0<|Aa<|Y1<|Wm<|Wm<|Y0<|AWp.block ?_
   refine AQ (λmz σ=>∃k,k<=0/\mz=0-k/\σ=⟨[(10,.d (ex (.slice none 0 0))),(57,.d (ex (.int .i64 ((0:Nat):Int)))),(58,.d (ex (.int .i64 (k:Nat))))],[]⟩) ?le ⟨0,by omega,rfl,rfl⟩ ?round
   case le=>exact Ak (by exact Yd<|Yd<|Yd<|FrLe.nil) (by exact HpLe.nil)
   case round=>
    rintro mz _ ⟨k,hk,rfl,rfl⟩
    by_cases hlt:k<0
    .omega
    .obtain rfl:k=0:=by omega
     apply Y1;refine Wq Aj ?_;refine Y0<|Aa<|Cf<|AP<|AA<|AF<|AB<|Yn<|Y1<|Wm<|Wa<|Wa<|Y0<|At ?_
     exact Bf (BV (ResV.tmp rfl rfl) (ResV.tmp rfl rfl) (BM (DY) (D.le.refl _)))
def m2(a b c d:Int)(i j:Nat):Rat:=if i=0 then if j=0 then (a:Rat) else (b:Rat) else if j=0 then (c:Rat) else (d:Rat)
theorem FD(a b c d:Int)(ha:-1000<=a/\a<=1000)(hb:-1000<=b/\b<=1000)(hc:-1000<=c/\c<=1000)(hd:-1000<=d/\d<=1000):Abs Tryz.prog 23 [ex (.int .i64 a),ex (.int .i64 b),ex (.int .i64 c),ex (.int .i64 d)] (BY 2 2 (m2 a b c d)):=by
 refine Ab Tryz.func23 λs0=>?_
 rw [Tryz.ntmps23]
 refine Y1<|Wa<|Y0<|Y1<|Wm ?_;refine Wq (Af (Bv a (by omega) (by omega))) ?_;refine Wm ?_;refine Wq (Af (Bv b (by omega) (by omega))) ?_;(refine Cr rfl rfl ?_;(refine Cx (Ad rfl) (Ad rfl) rfl rfl rfl rfl rfl ?_;(repeat ((first | refine ⟨_,AO (ao rfl),?_⟩ | refine ⟨_,Po rfl,?_⟩);refine ⟨_,rfl,?_⟩));refine ⟨_,rfl,?_⟩));refine Wm ?_;refine Wq (Af (Bv c (by omega) (by omega))) ?_;refine Wm ?_;refine Wq (Af (Bv d (by omega) (by omega))) ?_;(refine Cr rfl rfl ?_;(refine Cx (Ad rfl) (Ad rfl) rfl rfl rfl rfl rfl ?_;(repeat ((first | refine ⟨_,AO (ao rfl),?_⟩ | refine ⟨_,Po rfl,?_⟩);refine ⟨_,rfl,?_⟩));refine ⟨_,rfl,?_⟩));(refine Cr rfl rfl ?_;(refine Cx (Ad rfl) (Ad rfl) rfl rfl rfl rfl rfl ?_;(repeat ((first | refine ⟨_,AO (ao rfl),?_⟩ | refine ⟨_,Po rfl,?_⟩);refine ⟨_,rfl,?_⟩));refine ⟨_,rfl,?_⟩));refine Wa<|Y0<|At ?_
 exact Bf (Rets.of1 (ResV.tmp rfl rfl) (Be rfl))
theorem NS{a b c d:Int}(ha:-1000<=a/\a<=1000)(hb:-1000<=b/\b<=1000)(hc:-1000<=c/\c<=1000)(hd:-1000<=d/\d<=1000)(i j:Nat):RSz (m2 a b c d i j) 1:=by
 unfold m2
 split<;>split<;>exact Dj (by omega) (by omega)
theorem XR(c:Rat)(P:List Tm):Sim (Eu c P) (scl c P):=by
 unfold Eu
 split
 .rename_i h
  intro f _
  rw [UD,h,Rat.zero_mul]
  rfl
 .unfold Nr scl
  rw [List.map_congr_left λt _=>by rw [HY]]
  exact Sim.refl _
abbrev FA:List Tm:=CV [⟨1,Gm 0⟩] (Dm (1:Int))
abbrev NP:List (Nat->Int):=[Gm 0,λ_=>0]
theorem Pb:∀m∈NP,In8 m 0 1:=λm hm=>by
 rcases List.mem_cons.1 hm with rfl | hm
 .exact Hm
 .rw [List.mem_singleton.1 hm]
  exact λi _=>⟨Int.le_refl _,Int.zero_le_ofNat 1⟩
theorem GR{f:(Nat->Int)->Rat}(hf:IT f)(P Q:List Tm):Dl f (CV P Q)=Dl f P+Dl f Q:=(GL P Q f hf).trans (Dk f P Q)
theorem JB{f:(Nat->Int)->Rat}(hf:IT f)(c:Rat)(P:List Tm):Dl f (Eu c P)=c*Dl f P:=(XR c P f hf).trans (UD f c P)
theorem MD:Dm ((-1:Int):Rat)=[⟨-1,λ_=>0⟩]:=by
 rw [Dm,if_neg (by decide +kernel)]
 rfl
theorem A3m:Do NP (m2 1 1 1 2) 2 2=[⟨1,FA⟩,⟨1,Dm (1:Int)⟩]:=by
 have e0:AJ (m2 1 1 1 2) 0 0 0=1:=by decide +kernel
 have e1:AJ (m2 1 1 1 2) 0 0 1=1:=by decide +kernel
 have e2:AJ (m2 1 1 1 2) 1 1 1=1:=by decide +kernel
 have e3:AJ (m2 1 1 1 2) 1 1 0=0:=by decide +kernel
 have z:¬(1:Rat)=0:=by decide +kernel
 have d:(1:Rat)/1=1:=by decide +kernel
 have s1:KX NP (AJ (m2 1 1 1 2) 0 0) 1 2=FA:=by
  show (if AJ (m2 1 1 1 2) 0 0 1=0 then _ else CV (if AJ (m2 1 1 1 2) 0 0 0=0 then _ else CV [] [⟨AJ (m2 1 1 1 2) 0 0 0/1,Gm 0⟩]) [⟨AJ (m2 1 1 1 2) 0 0 1/1,λ_=>0⟩])=_
  rw [e0,e1,if_neg z,if_neg z,d,Fa,FA,FI]
 have s2:KX NP (AJ (m2 1 1 1 2) 1 1) 1 2=Dm (1:Int):=by
  show (if AJ (m2 1 1 1 2) 1 1 1=0 then _ else CV (if AJ (m2 1 1 1 2) 1 1 0=0 then [] else _) [⟨AJ (m2 1 1 1 2) 1 1 1/1,λ_=>0⟩])=_
  rw [e2,e3,if_neg z,if_pos rfl,d,Fa,FI]
 show (if AJ (m2 1 1 1 2) 1 1 1=0 then _ else (if AJ (m2 1 1 1 2) 0 0 0=0 then _ else ([]:List Sq)++[(⟨AJ (m2 1 1 1 2) 0 0 0,KX NP (AJ (m2 1 1 1 2) 0 0) (AJ (m2 1 1 1 2) 0 0 0) 2⟩:Sq)])++[(⟨AJ (m2 1 1 1 2) 1 1 1,KX NP (AJ (m2 1 1 1 2) 1 1) (AJ (m2 1 1 1 2) 1 1 1) 2⟩:Sq)])=_
 rw [e0,e2,if_neg z,if_neg z,s1,s2]
 rfl
theorem A3l:Do NP (m2 0 0 0 3) 2 2=[⟨(3:Int),Dm (1:Int)⟩]:=by
 have e0:AJ (m2 0 0 0 3) 0 0 0=0:=by decide +kernel
 have e2:AJ (m2 0 0 0 3) 1 1 1=(3:Int):=by decide +kernel
 have e3:AJ (m2 0 0 0 3) 1 1 0=0:=by decide +kernel
 have z:¬((3:Int):Rat)=0:=by decide +kernel
 have d:((3:Int):Rat)/((3:Int):Rat)=1:=by decide +kernel
 have s2:KX NP (AJ (m2 0 0 0 3) 1 1) (3:Int) 2=Dm (1:Int):=by
  show (if AJ (m2 0 0 0 3) 1 1 1=0 then _ else CV (if AJ (m2 0 0 0 3) 1 1 0=0 then [] else _) [⟨AJ (m2 0 0 0 3) 1 1 1/(3:Int),λ_=>0⟩])=_
  rw [e2,e3,if_neg z,if_pos rfl,d,Fa,FI]
 show (if AJ (m2 0 0 0 3) 1 1 1=0 then _ else (if AJ (m2 0 0 0 3) 0 0 0=0 then [] else _)++[(⟨AJ (m2 0 0 0 3) 1 1 1,KX NP (AJ (m2 0 0 0 3) 1 1) (AJ (m2 0 0 0 3) 1 1 1) 2⟩:Sq)])=_
 rw [e0,e2,if_neg z,if_pos rfl,s2]
 rfl
theorem Ls{p:Nat->Prop}(h0:p 0)(h1:p 1):∀k,k<2->p k:=λk hk=>by
 match k,hk with
 | 0,_=>exact h0
 | 1,_=>exact h1
theorem A3W:∀k,k<2->DF (m2 1 1 1 2) 2 k:=Ls ⟨by decide +kernel,λh=>absurd h (by decide +kernel)⟩ ⟨by decide +kernel,λh=>absurd h (by decide +kernel)⟩
theorem A3V:∀k,k<2->DF (m2 0 0 0 3) 2 k:=Ls ⟨by decide +kernel,λ_=>Ls (by decide +kernel) (by decide +kernel)⟩ ⟨by decide +kernel,λh=>absurd h (by decide +kernel)⟩
theorem sy2{a b d:Int}:∀i,i<2->∀j,j<i->m2 a b b d i j=m2 a b b d j i:=Ls (λj h=>absurd h (Nat.not_lt_zero j)) λj h=>by
 obtain rfl:j=0:=by omega
 rfl
theorem Wd:Abs Tryz.prog 8 [Js NP,BY 2 2 (m2 1 1 1 2)] (CK [Iz [⟨1,FA⟩,⟨1,Dm (1:Int)⟩],ex (.int .i64 0)]):=by
 have:=Uz 2 1 1 NP (m2 1 1 1 2) (by omega) (by omega) rfl Pb (by omega) (NS (by omega) (by omega) (by omega) (by omega)) (by decide) sy2 A3W
 rwa [A3m] at this
theorem Wc:Abs Tryz.prog 8 [Js NP,BY 2 2 (m2 0 0 0 3)] (CK [Iz [⟨(3:Int),Dm (1:Int)⟩],ex (.int .i64 0)]):=by
 have:=Uz 2 1 1 NP (m2 0 0 0 3) (by omega) (by omega) rfl Pb (by omega) (NS (by omega) (by omega) (by omega) (by omega)) (by decide) sy2 A3V
 rwa [A3l] at this
theorem Wb:Abs Tryz.prog 8 [Js NP,BY 2 2 (m2 0 1 1 2)] (CK [Iz [],ex (.int .i64 280)]):=
 VU 2 1 1 NP (m2 0 1 1 2) (by omega) (by omega) rfl Pb (by omega) (NS (by omega) (by omega) (by omega) (by omega)) (by decide) sy2 0 (by omega) (λk h=>absurd h (Nat.not_lt_zero k)) (by decide +kernel) 1 (by omega) (λj h=>by obtain rfl:j=0:=(by omega);decide +kernel) (by decide +kernel)
theorem VZ:Abs Tryz.prog 8 [Js NP,BY 2 2 (m2 1 2 2 1)] (CK [Iz [],ex (.int .i64 280)]):=
 YT 2 1 1 NP (m2 1 2 2 1) (by omega) (by omega) rfl Pb (by omega) (NS (by omega) (by omega) (by omega) (by omega)) (by decide) sy2 1 (by omega) (λk h=>by obtain rfl:k=0:=(by omega);exact ⟨by decide +kernel,λh=>absurd h (by decide +kernel)⟩) (by decide +kernel)
theorem VY:Abs Tryz.prog 8 [Js NP,BY 2 2 (m2 1 2 3 4)] (CK [Iz [],ex (.int .i64 112)]):=
 YQ 2 1 (by omega) (by omega) 1 NP (m2 1 2 3 4) rfl (NS (by omega) (by omega) (by omega) (by omega)) (by decide) 1 0 (by omega) (by omega) (λi hi j hj=>by omega) (λj hj=>absurd hj (Nat.not_lt_zero j)) (by decide +kernel)
theorem VX:Abs Tryz.prog 8 [Js [Gm 0],BY 1 2 (m2 1 0 0 0)] (CK [Iz [],ex (.int .i64 1)]):=
 VW 2 1 1 (by omega) (by omega) (by omega) (by omega) 1 [Gm 0] (m2 1 0 0 0) rfl (NS (by omega) (by omega) (by omega) (by omega)) (by decide)
def BS:Nat->(Nat->Rat)->Rat
 | 0,_=>0
 | n+1,f=>BS n f+f n
theorem Cz{f g:Nat->Rat}:∀{n:Nat},(∀k,k<n->f k=g k)->BS n f=BS n g
 | 0,_=>rfl
 | n+1,h=>by rw [BS,BS,Cz λk hk=>h k (by omega),h n (by omega)]
theorem Jc(f g:Nat->Rat):∀n,BS n (λk=>f k+g k)=BS n f+BS n g
 | 0=>by simp [BS,Rat.zero_add]
 | n+1=>by rw [BS,BS,BS,Jc f g n];grind
theorem Gn(c:Rat)(f:Nat->Rat):∀n,BS n (λk=>c*f k)=c*BS n f
 | 0=>by rw [BS,BS,Rat.mul_zero]
 | n+1=>by rw [BS,BS,Gn c f n];grind
theorem Ex{f:Nat->Rat}{n:Nat}(h:∀k,k<n->f k=0):BS n f=0:=by
 have:=Cz (f:=f) (g:=λ_=>0*0) (n:=n) λk hk=>by rw [h k hk,Rat.zero_mul]
 rw [this,Gn,Rat.zero_mul]
theorem A25{a b:Rat}(h:a*b=0):a=0\/b=0:=by
 by_cases ha:a=0
 .exact .inl ha
 .exact .inr (by
   have:a⁻¹*(a*b)=b:=by rw [<-Rat.mul_assoc,Rat.inv_mul_cancel _ ha,Rat.one_mul]
   rw [<-this,h,Rat.mul_zero])
def HG(F:Nat->Nat->Rat)(M:Nat->Nat->Rat)(n:Nat):Rat:=BS n λi=>BS n λj=>M i j*F i j
theorem QX(F:Nat->Nat->Rat){M:Nat->Nat->Rat}{p n:Nat}(h0:M p p≠0):HG F M n=M p p*BS n (λi=>M p i/M p p*BS n λj=>M p j/M p p*F i j)+HG F (Gq M p) n:=by
 unfold HG
 rw [<-Gn,<-Jc]
 refine Cz λi _=>?_
 rw [<-Rat.mul_assoc,<-Gn,<-Jc]
 refine Cz λj _=>?_
 rw [Gq]
 have hd:M p j/M p p*M p p=M p j:=by rw [Rat.div_def,Rat.mul_assoc,Rat.inv_mul_cancel _ h0,Rat.mul_one]
 generalize M p j/M p p=y at hd ⊢
 rw [<-hd]
 grind
theorem XZ{f:(Nat->Int)->Rat}(hf:IT f)(a:Nat->Int):IT λb=>f (Ba a b):=λb b' h=>hf _ _ λi hi=>by
 simp only [Ba]
 rw [h i hi]
theorem XY{f:(Nat->Int)->Rat}(hf:IT f)(Q:List Tm):IT λa=>Dl (λb=>f (Ba a b)) Q:=λa a' h=>Ki λt _=>hf _ _ λi hi=>by
 simp only [Ba]
 rw [h i hi]
def JY(ms:List (Nat->Int))(i:Nat):Nat->Int:=ms.getD i default
theorem UB{f:(Nat->Int)->Rat}(hf:IT f)(ms:List (Nat->Int))(row:Nat->Rat)(d:Rat):∀n,Dl f (KX ms row d n)=BS n λj=>row j/d*f (JY ms j)
 | 0=>rfl
 | n+1=>by
  rw [KX,BS,<-UB hf ms row d n]
  split
  .rename_i h
   rw [h,Rat.div_def,Rat.zero_mul,Rat.zero_mul]
   grind
  .rw [GR hf]
   show _+(row n/d*f (JY ms n)+0)=_
   grind
theorem A2e{f:(Nat->Int)->Rat}(hf:IT f){P:List Tm}{ms:List (Nat->Int)}{c:Nat->Rat}{n:Nat}(h:∀g,IT g->Dl g P=BS n λj=>c j*g (JY ms j)):Dl f (Fz P P)=BS n λi=>c i*BS n λj=>c j*f (Ba (JY ms i) (JY ms j)):=by
 rw [LV P P f hf,Mv,h _ (XY hf P)]
 exact Cz λi _=>by rw [h _ (XZ hf _)]
theorem Vj(L:List Sq)(s:Sq):Fu (L++[s])=KW (Fu L) s:=by simp [Fu]
theorem QW{f:(Nat->Int)->Rat}(hf:IT f)(ms:List (Nat->Int))(M:Nat->Nat->Rat)(n:Nat):∀k,Dl f (Fu (Do ms M n k))+HG (λi j=>f (Ba (JY ms i) (JY ms j))) (AJ M k) n=HG (λi j=>f (Ba (JY ms i) (JY ms j))) M n
 | 0=>by
  show (0:Rat)+_=_
  rw [Rat.zero_add]
  rfl
 | k+1=>by
  rw [<-QW hf ms M n k,Do,AJ]
  split
  .rfl
  .rename_i h0
   rw [Vj,KW,GR hf,JB hf,A2e hf (λg hg=>UB hg ms (AJ M k k) (AJ M k k k) n),QX (M:=AJ M k) (p:=k) _ h0]
   grind
def A1D(ms:List (Nat->Int))(r:Nat->Rat):Nat->List Tm
 | 0=>[]
 | i+1=>CV (A1D ms r i) (Eu (r i) [⟨(1:Int),JY ms i⟩])
theorem RR(x y:Int)(hn:(Am x.natAbs).length<=4398046511104)(hn':(Am y.natAbs).length<=4398046511104):Abs Tryz.prog 85 [BF (Dz x),BF (Dz y)] (BF (Dz (x+y))):=by
 refine Bh (AG Tryz.func85 (by kernel_rfl) (by kernel_rfl)) λs vs hok hl hv=>?_
 rw [Nb hl]
 obtain ⟨x0,X0,n0,c0,e0,h0⟩:=Ce (hv 0 (by simp))
 obtain ⟨x1,X1,n1,c1,e1,h1⟩:=Ce (hv 1 (by simp))
 rw [e0,e1]
 exact (RB x0 x1 X0 X1 n0 c0 n1 c1 x y _ h0 h1 hn hn').mono λe w' ⟨y,Y,m,k,he,hI,hE⟩=>⟨_,he,hE,λs' hw hok' _ _=>by subst hw;exact GP hok' hI⟩
theorem Ez(x y:Int)(hn:(Am x.natAbs).length<=4398046511103)(hn':(Am y.natAbs).length<=4398046511103)(hy:y≠0):Abs Tryz.prog 84 [BF (Dz x),BF (Dz y)] (BF (Bz (Rat.divInt x y))):=by
 refine Bh (AG Tryz.func84 (by kernel_rfl) (by kernel_rfl)) λs vs hok hl hv=>?_
 rw [Nb hl]
 obtain ⟨x0,X0,n0,c0,e0,h0⟩:=Ce (hv 0 (by simp))
 obtain ⟨x1,X1,n1,c1,e1,h1⟩:=Ce (hv 1 (by simp))
 rw [e0,e1]
 exact (FZ x0 x1 X0 X1 n0 c0 n1 c1 x y _ h0 h1 hn hn' hy).mono λe w' ⟨y,y',Y,Y',m,k,m',k',he,hI,hE⟩=>⟨_,he,hE,λs' hw hok' _ _=>by subst hw;exact EC hok' hI⟩
structure Qr where
 n:Int
 d:Int
 k:Int
instance:Inhabited Qr:=⟨⟨0,0,0⟩⟩
def Qr.Ok(x:Qr):Prop:=-128<=x.n/\x.n<=127/\-128<=x.d/\x.d<=127/\0<=x.k/\x.k<=255
def qrC(x:Qr):List D:=[ex (.int .i8 x.n),ex (.int .i8 x.d),ex (.int .u8 x.k)]
def Cm(x:Qr):Int:=4611686018427387904+x.k
def OT(x:Qr):Int:=if x.k%8=7 then x.n*Cm x*Cm x+x.k else x.n
def Hh(x:Qr):Int:=if x.d=0 then 1 else x.d
def Mz(x:Qr):Int:=if x.k%8=6 then Hh x*Cm x*Cm x else Hh x
def HA(x:Qr):Rat:=Rat.divInt (OT x) (Mz x)
theorem Pv{x:Qr}(h:x.Ok):(Am (Cm x).natAbs).length<=2:=Ei (by
 obtain ⟨_,_,_,_,h1,h2⟩:=h
 unfold Cm
 simp only [BB]
 omega)
theorem UF{x:Qr}:Hh x≠0:=by unfold Hh;split<;>omega
theorem SX{x:Qr}(h:x.Ok):Cm x≠0:=by
 obtain ⟨_,_,_,_,h1,h2⟩:=h
 unfold Cm
 omega
theorem A2f{x:Qr}(h:x.Ok):Mz x≠0:=by
 unfold Mz
 split
 .exact Int.mul_ne_zero (Int.mul_ne_zero UF (SX h)) (SX h)
 .exact UF
theorem Ri{x:Qr}(h:x.Ok):(Am (Hh x).natAbs).length<=1:=by
 obtain ⟨_,_,h3,h4,_,_⟩:=h
 unfold Hh
 split<;>exact II (by omega) (by omega)
theorem A0S{x:Qr}(h:x.Ok):(Am (Mz x).natAbs).length<=5:=by
 unfold Mz
 split
 .exact BZ (N:=3) (BZ (N:=1) (Ri h) (Pv h)) (Pv h)
 .exact Nat.le_trans (Ri h) (by omega)
theorem QO{x:Qr}(h:x.Ok):(Am (x.n*Cm x*Cm x+x.k).natAbs).length<=5:=Ei (by
 obtain ⟨h1,h2,_,_,h5,h6⟩:=h
 have hb0:0<=Cm x:=by unfold Cm;omega
 have hb:Cm x<=4611686018427388159:=by unfold Cm;omega
 have e1:-(128*4611686018427388159)<=x.n*Cm x/\x.n*Cm x<=128*4611686018427388159:=by
  have a:=Int.mul_le_mul_of_nonneg_right h1 hb0
  have b:=Int.mul_le_mul_of_nonneg_right h2 hb0
  omega
 generalize x.n*Cm x=y at e1
 have a:=Int.mul_le_mul_of_nonneg_right e1.1 hb0
 have b:=Int.mul_le_mul_of_nonneg_right e1.2 hb0
 simp only [BB]
 omega)
theorem A0E{x:Qr}(h:x.Ok):(Am (OT x).natAbs).length<=5:=by
 unfold OT
 split
 .exact QO h
 .obtain ⟨h1,h2,_⟩:=h
  exact Nat.le_trans (II (by omega) (by omega)) (by omega:1<=5)
theorem Ug{z:Int}{N:Nat}(h:(Am z.natAbs).length<=N)(h1:1<=N):RSz ((z:Int):Rat) N:=⟨by simpa using h,Nat.le_trans (by simpa using II (z:=1) (by omega) (by omega)) h1⟩
theorem YJ{x:Qr}(h:x.Ok):RSz (HA x) 10:=by
 unfold HA
 rw [Rat.divInt_eq_div]
 exact (Ug (A0E h) (by omega)).divQ (Ug (A0S h) (by omega)) (λe=>A2f h (by exact_mod_cast e))
theorem Vv(x:Qr)(h:x.Ok):Abs Tryz.prog 91 [BF (qrC x)] (BF (Bz (HA x))):=by
 have hbl:=Pv h
 have hbn:=SX h
 have hnB:=QO h
 obtain ⟨h1,h2,h3,h4,h5,h6⟩:=h
 have ln:(Am x.n.natAbs).length<=1:=II (by omega) (by omega)
 have ld:(Am x.d.natAbs).length<=1:=II (by omega) (by omega)
 have lk:(Am x.k.natAbs).length<=1:=II (by omega) (by omega)
 have l1:(Am (1:Int).natAbs).length<=1:=II (by omega) (by omega)
 have lnb:=BZ ln hbl
 have lnbb:=BZ lnb hbl
 have ldb:=BZ ld hbl
 have ldbb:=BZ ldb hbl
 have l1b:=BZ l1 hbl
 have l1bb:=BZ l1b hbl
 have hbig:Cm x<=9223372036854775807:=by unfold Cm;omega
 have hbig0:-9223372036854775808<=Cm x:=by unfold Cm;omega
 have hb2:Cm x*Cm x≠0:=Int.mul_ne_zero hbn hbn
 have n1:(1:Int)*Cm x*Cm x≠0:=Int.mul_ne_zero (Int.mul_ne_zero (by omega) hbn) hbn
 by_cases hD:x.d=0
 .have nd:x.d=0\/x.d*Cm x*Cm x≠0:=(Classical.em (x.d=0)).imp id λe=>Int.mul_ne_zero (Int.mul_ne_zero e hbn) hbn
  by_cases hk:x.k%8=7
  .refine Ab Tryz.func91 λs0=>?_
   rw [Tryz.ntmps91]
   apply Y1;refine Bx ?_;refine Al ?_;refine Y0<|Aa ?_
   refine Dr [[],[(6,0)],[(7,1)],[(8,2)],[],[(10,4)],[(11,5)],[(12,6)],[],[]] [[],[0],[0,1],[0,1,2],[],[4],[4,5],[0,1,2,3,4,5,6],[],[]] ?_
   refine Xq Aq ?_;refine Xq AI ?_;refine Xq BD ?_;refine Xq (Af (Ci x.n (by omega) (by omega))) ?_;refine Xq Aq ?_;refine Xq AI ?_;refine Xq BD ?_;refine Xq (Af (Ci x.d (by omega) (by omega))) ?_;refine Xn ?_;refine Xn ?_;refine ⟨_,rfl,?_⟩
   refine Sf ?_;refine Sf ?_;refine Y0<|Aa<|Y1 ?_;refine Wq Aq ?_;refine Wq AI ?_;refine Wq Ai ?_;refine Y0<|Ct<|AWp.region ?_;refine Wq (Af (Ci 1 (by omega) (by omega))) ?_;refine Sf ?_;refine Y0<|Y1 ?_;refine Wq Aq ?_;refine Wq AI ?_;refine Wq BD ?_;refine Wq EU ?_;refine Wq (Af (Ci (Cm x) hbig0 hbig)) ?_;refine Al ?_;refine Sf ?_;refine Y0<|Aa<|Y1 ?_;refine Wq Aq ?_;refine Wq AI ?_;refine Wq Co ?_;refine Wq Ai ?_;refine Y0<|Ct ?_
   refine Dr [[],[],[(27,0),(28,1)],[],[(29,2),(30,3)],[],[(32,5)],[(33,6)],[(34,7)],[(31,4),(35,8)]] [[],[],[0,1],[],[0,1,2,3],[],[5],[5,6],[0,1,2,3,4,5,6,7],[0,1,2,3,4,5,6,7,8]] ?_
   refine Xq Ar ?_;refine Xq Ar ?_;refine Xq (Af (DX x.n (Cm x) (by omega) (by omega))) ?_;refine Xq Ar ?_;refine Xq (Af (DX (x.n*Cm x) (Cm x) (by omega) (by omega))) ?_;refine Xq Aq ?_;refine Xq AI ?_;refine Xq BD ?_;refine Xq (Af (Ci x.k (by omega) (by omega))) ?_;refine Xq (Af (RR (x.n*Cm x*Cm x) x.k (by omega) (by omega))) ?_;refine ⟨_,rfl,?_⟩
   refine Sf ?_;refine Y0<|Aa<|Y1 ?_;refine Wq Aq ?_;refine Wq AI ?_;refine Wq Co ?_;refine Wq Aj ?_;refine Y0<|Cf<|Ys<|Y1 ?_;refine Wq Ar ?_;refine Wq Ar ?_;refine Wq (Af (Ez (x.n*Cm x*Cm x+x.k) 1 (by omega) (by omega) (by omega))) ?_;refine Sf ?_;refine Y0<|At ?_
   exact Bf (Rets.of1 (ResV.cell rfl rfl (Ad rfl) rfl rfl rfl) (Be (by simp only [HA,OT,Mz,Hh,if_pos hk,if_neg (show ¬x.k%8=6 by omega)];(first | rw [if_pos hD] | rw [if_neg hD]);rfl)))
  .by_cases hk6:x.k%8=6
   .refine Ab Tryz.func91 λs0=>?_
    rw [Tryz.ntmps91]
    apply Y1;refine Bx ?_;refine Al ?_;refine Y0<|Aa ?_
    refine Dr [[],[(6,0)],[(7,1)],[(8,2)],[],[(10,4)],[(11,5)],[(12,6)],[],[]] [[],[0],[0,1],[0,1,2],[],[4],[4,5],[0,1,2,3,4,5,6],[],[]] ?_
    refine Xq Aq ?_;refine Xq AI ?_;refine Xq BD ?_;refine Xq (Af (Ci x.n (by omega) (by omega))) ?_;refine Xq Aq ?_;refine Xq AI ?_;refine Xq BD ?_;refine Xq (Af (Ci x.d (by omega) (by omega))) ?_;refine Xn ?_;refine Xn ?_;refine ⟨_,rfl,?_⟩
    refine Sf ?_;refine Sf ?_;refine Y0<|Aa<|Y1 ?_;refine Wq Aq ?_;refine Wq AI ?_;refine Wq Ai ?_;refine Y0<|Ct<|AWp.region ?_;refine Wq (Af (Ci 1 (by omega) (by omega))) ?_;refine Sf ?_;refine Y0<|Y1 ?_;refine Wq Aq ?_;refine Wq AI ?_;refine Wq BD ?_;refine Wq EU ?_;refine Wq (Af (Ci (Cm x) hbig0 hbig)) ?_;refine Al ?_;refine Sf ?_;refine Y0<|Aa<|Y1 ?_;refine Wq Aq ?_;refine Wq AI ?_;refine Wq Co ?_;refine Wq Aj ?_;refine Y0<|Cf<|Ys<|Aa<|Y1 ?_;refine Wq Aq ?_;refine Wq AI ?_;refine Wq Co ?_;refine Wq Ai ?_;refine Y0<|Ct ?_
    refine Dr [[],[],[(41,0),(42,1)],[],[(43,2),(44,3)]] [[],[],[0,1],[],[0,1,2,3]] ?_
    refine Xq Ar ?_;refine Xq Ar ?_;refine Xq (Af (DX 1 (Cm x) (by omega) (by omega))) ?_;refine Xq Ar ?_;refine Xq (Af (DX (1*Cm x) (Cm x) (by omega) (by omega))) ?_;refine ⟨_,rfl,?_⟩
    refine Sf ?_;refine Y0<|Y1 ?_;refine Wq Ar ?_;refine Wq Ar ?_;refine Wq (Af (Ez x.n (1*Cm x*Cm x) (by omega) (by omega) n1)) ?_;refine Sf ?_;refine Y0<|At ?_
    exact Bf (Rets.of1 (ResV.cell rfl rfl (Ad rfl) rfl rfl rfl) (Be (by simp only [HA,OT,Mz,Hh,if_neg hk,if_pos hk6];(first | rw [if_pos hD] | rw [if_neg hD]);rfl)))
   .refine Ab Tryz.func91 λs0=>?_
    rw [Tryz.ntmps91]
    apply Y1;refine Bx ?_;refine Al ?_;refine Y0<|Aa ?_
    refine Dr [[],[(6,0)],[(7,1)],[(8,2)],[],[(10,4)],[(11,5)],[(12,6)],[],[]] [[],[0],[0,1],[0,1,2],[],[4],[4,5],[0,1,2,3,4,5,6],[],[]] ?_
    refine Xq Aq ?_;refine Xq AI ?_;refine Xq BD ?_;refine Xq (Af (Ci x.n (by omega) (by omega))) ?_;refine Xq Aq ?_;refine Xq AI ?_;refine Xq BD ?_;refine Xq (Af (Ci x.d (by omega) (by omega))) ?_;refine Xn ?_;refine Xn ?_;refine ⟨_,rfl,?_⟩
    refine Sf ?_;refine Sf ?_;refine Y0<|Aa<|Y1 ?_;refine Wq Aq ?_;refine Wq AI ?_;refine Wq Ai ?_;refine Y0<|Ct<|AWp.region ?_;refine Wq (Af (Ci 1 (by omega) (by omega))) ?_;refine Sf ?_;refine Y0<|Y1 ?_;refine Wq Aq ?_;refine Wq AI ?_;refine Wq BD ?_;refine Wq EU ?_;refine Wq (Af (Ci (Cm x) hbig0 hbig)) ?_;refine Al ?_;refine Sf ?_;refine Y0<|Aa<|Y1 ?_;refine Wq Aq ?_;refine Wq AI ?_;refine Wq Co ?_;refine Wq Aj ?_;refine Y0<|Cf<|Ys<|Aa<|Y1 ?_;refine Wq Aq ?_;refine Wq AI ?_;refine Wq Co ?_;refine Wq Aj ?_;refine Y0<|Cf<|Ys<|Y1 ?_;refine Wq Ar ?_;refine Wq Ar ?_;refine Wq (Af (Ez x.n 1 (by omega) (by omega) (by omega))) ?_;refine Sf ?_;refine Y0<|At ?_
    exact Bf (Rets.of1 (ResV.cell rfl rfl (Ad rfl) rfl rfl rfl) (Be (by simp only [HA,OT,Mz,Hh,if_neg hk,if_neg hk6];(first | rw [if_pos hD] | rw [if_neg hD]);rfl)))
 .have nd:x.d=0\/x.d*Cm x*Cm x≠0:=(Classical.em (x.d=0)).imp id λe=>Int.mul_ne_zero (Int.mul_ne_zero e hbn) hbn
  by_cases hk:x.k%8=7
  .refine Ab Tryz.func91 λs0=>?_
   rw [Tryz.ntmps91]
   apply Y1;refine Bx ?_;refine Al ?_;refine Y0<|Aa ?_
   refine Dr [[],[(6,0)],[(7,1)],[(8,2)],[],[(10,4)],[(11,5)],[(12,6)],[],[]] [[],[0],[0,1],[0,1,2],[],[4],[4,5],[0,1,2,3,4,5,6],[],[]] ?_
   refine Xq Aq ?_;refine Xq AI ?_;refine Xq BD ?_;refine Xq (Af (Ci x.n (by omega) (by omega))) ?_;refine Xq Aq ?_;refine Xq AI ?_;refine Xq BD ?_;refine Xq (Af (Ci x.d (by omega) (by omega))) ?_;refine Xn ?_;refine Xn ?_;refine ⟨_,rfl,?_⟩
   refine Sf ?_;refine Sf ?_;refine Y0<|Aa<|Y1 ?_;refine Wq Aq ?_;refine Wq AI ?_;refine Wq Aj ?_;refine Y0<|Cf<|Ys<|Y1 ?_;refine Wq Aq ?_;refine Wq AI ?_;refine Wq BD ?_;refine Wq EU ?_;refine Wq (Af (Ci (Cm x) hbig0 hbig)) ?_;refine Al ?_;refine Sf ?_;refine Y0<|Aa<|Y1 ?_;refine Wq Aq ?_;refine Wq AI ?_;refine Wq Co ?_;refine Wq Ai ?_;refine Y0<|Ct ?_
   refine Dr [[],[],[(27,0),(28,1)],[],[(29,2),(30,3)],[],[(32,5)],[(33,6)],[(34,7)],[(31,4),(35,8)]] [[],[],[0,1],[],[0,1,2,3],[],[5],[5,6],[0,1,2,3,4,5,6,7],[0,1,2,3,4,5,6,7,8]] ?_
   refine Xq Ar ?_;refine Xq Ar ?_;refine Xq (Af (DX x.n (Cm x) (by omega) (by omega))) ?_;refine Xq Ar ?_;refine Xq (Af (DX (x.n*Cm x) (Cm x) (by omega) (by omega))) ?_;refine Xq Aq ?_;refine Xq AI ?_;refine Xq BD ?_;refine Xq (Af (Ci x.k (by omega) (by omega))) ?_;refine Xq (Af (RR (x.n*Cm x*Cm x) x.k (by omega) (by omega))) ?_;refine ⟨_,rfl,?_⟩
   refine Sf ?_;refine Y0<|Aa<|Y1 ?_;refine Wq Aq ?_;refine Wq AI ?_;refine Wq Co ?_;refine Wq Aj ?_;refine Y0<|Cf<|Ys<|Y1 ?_;refine Wq Ar ?_;refine Wq Ar ?_;refine Wq (Af (Ez (x.n*Cm x*Cm x+x.k) x.d (by omega) (by omega) hD)) ?_;refine Sf ?_;refine Y0<|At ?_
   exact Bf (Rets.of1 (ResV.cell rfl rfl (Ad rfl) rfl rfl rfl) (Be (by simp only [HA,OT,Mz,Hh,if_pos hk,if_neg (show ¬x.k%8=6 by omega)];(first | rw [if_pos hD] | rw [if_neg hD]);rfl)))
  .by_cases hk6:x.k%8=6
   .refine Ab Tryz.func91 λs0=>?_
    rw [Tryz.ntmps91]
    apply Y1;refine Bx ?_;refine Al ?_;refine Y0<|Aa ?_
    refine Dr [[],[(6,0)],[(7,1)],[(8,2)],[],[(10,4)],[(11,5)],[(12,6)],[],[]] [[],[0],[0,1],[0,1,2],[],[4],[4,5],[0,1,2,3,4,5,6],[],[]] ?_
    refine Xq Aq ?_;refine Xq AI ?_;refine Xq BD ?_;refine Xq (Af (Ci x.n (by omega) (by omega))) ?_;refine Xq Aq ?_;refine Xq AI ?_;refine Xq BD ?_;refine Xq (Af (Ci x.d (by omega) (by omega))) ?_;refine Xn ?_;refine Xn ?_;refine ⟨_,rfl,?_⟩
    refine Sf ?_;refine Sf ?_;refine Y0<|Aa<|Y1 ?_;refine Wq Aq ?_;refine Wq AI ?_;refine Wq Aj ?_;refine Y0<|Cf<|Ys<|Y1 ?_;refine Wq Aq ?_;refine Wq AI ?_;refine Wq BD ?_;refine Wq EU ?_;refine Wq (Af (Ci (Cm x) hbig0 hbig)) ?_;refine Al ?_;refine Sf ?_;refine Y0<|Aa<|Y1 ?_;refine Wq Aq ?_;refine Wq AI ?_;refine Wq Co ?_;refine Wq Aj ?_;refine Y0<|Cf<|Ys<|Aa<|Y1 ?_;refine Wq Aq ?_;refine Wq AI ?_;refine Wq Co ?_;refine Wq Ai ?_;refine Y0<|Ct ?_
    refine Dr [[],[],[(41,0),(42,1)],[],[(43,2),(44,3)]] [[],[],[0,1],[],[0,1,2,3]] ?_
    refine Xq Ar ?_;refine Xq Ar ?_;refine Xq (Af (DX x.d (Cm x) (by omega) (by omega))) ?_;refine Xq Ar ?_;refine Xq (Af (DX (x.d*Cm x) (Cm x) (by omega) (by omega))) ?_;refine ⟨_,rfl,?_⟩
    refine Sf ?_;refine Y0<|Y1 ?_;refine Wq Ar ?_;refine Wq Ar ?_;refine Wq (Af (Ez x.n (x.d*Cm x*Cm x) (by omega) (by omega) (nd.resolve_left hD))) ?_;refine Sf ?_;refine Y0<|At ?_
    exact Bf (Rets.of1 (ResV.cell rfl rfl (Ad rfl) rfl rfl rfl) (Be (by simp only [HA,OT,Mz,Hh,if_neg hk,if_pos hk6];(first | rw [if_pos hD] | rw [if_neg hD]);rfl)))
   .refine Ab Tryz.func91 λs0=>?_
    rw [Tryz.ntmps91]
    apply Y1;refine Bx ?_;refine Al ?_;refine Y0<|Aa ?_
    refine Dr [[],[(6,0)],[(7,1)],[(8,2)],[],[(10,4)],[(11,5)],[(12,6)],[],[]] [[],[0],[0,1],[0,1,2],[],[4],[4,5],[0,1,2,3,4,5,6],[],[]] ?_
    refine Xq Aq ?_;refine Xq AI ?_;refine Xq BD ?_;refine Xq (Af (Ci x.n (by omega) (by omega))) ?_;refine Xq Aq ?_;refine Xq AI ?_;refine Xq BD ?_;refine Xq (Af (Ci x.d (by omega) (by omega))) ?_;refine Xn ?_;refine Xn ?_;refine ⟨_,rfl,?_⟩
    refine Sf ?_;refine Sf ?_;refine Y0<|Aa<|Y1 ?_;refine Wq Aq ?_;refine Wq AI ?_;refine Wq Aj ?_;refine Y0<|Cf<|Ys<|Y1 ?_;refine Wq Aq ?_;refine Wq AI ?_;refine Wq BD ?_;refine Wq EU ?_;refine Wq (Af (Ci (Cm x) hbig0 hbig)) ?_;refine Al ?_;refine Sf ?_;refine Y0<|Aa<|Y1 ?_;refine Wq Aq ?_;refine Wq AI ?_;refine Wq Co ?_;refine Wq Aj ?_;refine Y0<|Cf<|Ys<|Aa<|Y1 ?_;refine Wq Aq ?_;refine Wq AI ?_;refine Wq Co ?_;refine Wq Aj ?_;refine Y0<|Cf<|Ys<|Y1 ?_;refine Wq Ar ?_;refine Wq Ar ?_;refine Wq (Af (Ez x.n x.d (by omega) (by omega) hD)) ?_;refine Sf ?_;refine Y0<|At ?_
    exact Bf (Rets.of1 (ResV.cell rfl rfl (Ad rfl) rfl rfl rfl) (Be (by simp only [HA,OT,Mz,Hh,if_neg hk,if_neg hk6];(first | rw [if_pos hD] | rw [if_neg hD]);rfl)))
def LR(f:Nat->Rat)(n:Nat):List (List D):=(List.range n).map λj=>Bz (f j)
theorem Hs(f:Nat->Rat)(n:Nat):(LR f n).length=n:=by simp [LR]
theorem Vo(f:Nat->Rat)(n:Nat):LR f n++[Bz (f n)]=LR f (n+1):=by simp [LR,List.range_succ]
theorem Ut{r:List D}{sz:Nat}(h:r.length=sz):∀k,k<[r].length->([r].getD k []).length=sz:=λk hk=>by
 obtain rfl:k=0:=by simpa using hk
 exact h
section
variable {P:Program} {s0:An} {n:Nat} {Q:Exit->AS->Prop} {fr:List (Nat×AV)} {hp:List Ow}
theorem Xm{c:Code}{T:Nat}{f:Nat->Rat}{len:Nat}{frf:Nat->Nat->List (Nat×AV)}{hpf:Nat->List Ow}(id:Nat)(hh:hp[id]? = some (.obj (JR T 4 (LR f len))))(h0:0<len)(hf:∀g c,DW id (sX g len c) fr=some (frf g c))(hpl:PlainHp id hp)(hs:∀g,DI hp id (.obj (Bj [⟨g,T,Bg f len⟩]))=some (hpf g))
  (h:∀g k,len<=k->k<=9223372036854775807->AWp P s0 n c Q ⟨frf g k,hpf g⟩):AWp P s0 n c Q ⟨fr,hp⟩:=by
 have hl:=Hs f len
 refine UY id hh (by omega) (λg c=>by rw [hl];exact hf g c) hpl hs λg k h1 h2=>h g k (by omega) h2
end
abbrev zR:Nat->Rat:=λ_=>((0:Int):Rat)
theorem Gl(n:Nat)(h0:0<n)(hn:n<=1000):Con Tryz.prog 63 [.d (ex (.int .i64 (n:Nat)))] [] [] (λr hp'=>∃g c,n<=c/\c<=9223372036854775807/\r = .d (sX g n c)/\hp'=[.dead,.obj (Bj [⟨g,42,Bg zR n⟩])]):=by
 refine FL Tryz.func63 rfl (AG Tryz.func63 (by kernel_rfl) (by kernel_rfl)) rfl λs0=>?_
 rw [Tryz.ntmps63]
 refine Y1<|Wa<|Y0<|Y1 ?_;refine EA (Ad rfl) (Ad rfl) rfl rfl rfl rfl rfl ?_;refine Wa<|Y0<|Aa<|Y1<|Wa<|Y0<|AWp.block ?_
 refine AQ (λmz σ=>∃k,k<=n/\mz=n-k/\σ=⟨[(0,.d (ex (.int .i64 (n:Nat)))),(3,.own 1),(4,.d (ex (.int .i64 (k:Nat))))],[.pin [],.obj (JR 42 4 (LR zR k))]⟩) ?le ⟨0,by omega,rfl,rfl⟩ ?round
 case le=>
  refine FO (A06 1 rfl rfl) ?_
  exact Ak (by exact Yd<|FrLe.cons rfl (AVle.own rfl)<|Yd<|FrLe.nil) (by exact HpLe.cons (BA rfl)<|HpLe.cons (OwLe.obj rfl)<|HpLe.nil)
 case round=>
  rintro mz _ ⟨k,hk,rfl,rfl⟩
  by_cases hlt:k<n
  .have hlk:=Hs zR k
   refine Aa<|Y1<|Wm<|Wm ?_;refine Wq Ai ?_;refine Y0<|Ct<|Ys<|Aa<|AWp.block<|AWp.region<|Wm ?_;refine Wq (Af (Bv 0 (by omega) (by omega))) ?_;refine Wq (BJ (ao rfl) (Ad rfl) (Ad rfl) rfl rfl rfl rfl rfl) ?_;(refine UX (r2:=[Bz ((0:Int):Rat)]) (ao rfl) rfl (Ut rfl) (by decide) rfl (Ad rfl) (Ad rfl) rfl rfl (by simp;omega) (by simp;omega) rfl (by first | ((repeat (first | exact PlainHp.nil | refine PlainHp.var ?_ | refine CW ?_ | refine PlainHp.dead ?_ | refine PlainHp.obj ?_ | refine PlainHp.pin rfl ?_ | refine CE rfl ?_));done) | fail) rfl ?_);refine Wa<|AWl.nil<|Ah<|Yn<|AWp.region<|Wm ?_;refine Wq AH ?_;refine Wa<|AWl.nil ?_
   refine ALoop.next (n-(k+1)) (by omega) ⟨k+1,by omega,rfl,rfl⟩ ?_
   exact Ak (by exact Yd<|FrLe.cons rfl (AVle.own rfl)<|Yd<|FrLe.nil) (by exact HpLe.cons (BA rfl)<|HpLe.cons (OwLe.obj (by rw [<-Vo]))<|HpLe.nil)
  .obtain rfl:n=k:=by omega
   refine Xm 1 rfl h0 (λg c=>rfl) (by first | ((repeat (first | exact PlainHp.nil | refine PlainHp.var ?_ | refine CW ?_ | refine PlainHp.dead ?_ | refine PlainHp.obj ?_ | refine PlainHp.pin rfl ?_ | refine CE rfl ?_));done) | fail) (λg=>rfl) λg c hc1 hc2=>?_
   refine Aa<|Y1<|Wm<|Wm ?_;refine Wq Aj ?_;refine Y0<|Cf<|AP<|AA<|AF<|AB<|Yn<|Y1<|Wm<|Wa<|Y0<|At ?_
   refine Et (RetsA.one rfl) rfl ?_ rfl
   exact ⟨g,c,hc1,hc2,rfl,rfl⟩
def VG(T:Nat)(V:List Int):D:=slD T 1 (V.map λz=>[ex (.int .i8 z)])
def Mr8(V:List Int):Prop:=∀z∈V,-128<=z/\z<=127
def dV(v:Int):Int:=if 90<v then 2 else if v < -90 then 3 else 1
def qV(v:Int):Qr:=⟨v.tmod 4,dV v,0⟩
def LP(V:List Int)(k j:Nat):Rat:=if V=[] then ((0:Int):Rat) else HA (qV (V.getD ((k+j)%V.length) default))
def JS(V:List Int)(k n:Nat)(j:Nat):Rat:=if j<n then LP V k j else ((0:Int):Rat)
theorem A1P(z:Int):-3<=Int.tmod z 4/\Int.tmod z 4<=3:=by
 rcases Int.le_total 0 z with h | h
 .rw [Int.tmod_eq_emod_of_nonneg h];omega
 .have:Int.tmod z 4 = -((-z)%4):=by
   rw [<-Int.tmod_eq_emod_of_nonneg (by omega),Int.neg_tmod,Int.neg_neg]
  omega
theorem A3v(v:Int):1<=dV v/\dV v<=3:=by
 unfold dV
 split
 .omega
 .split<;>omega
theorem A1E(v:Int):(qV v).Ok:=by
 have h:=A1P v
 have h':=A3v v
 exact ⟨show -128<=v.tmod 4 by omega,show v.tmod 4<=127 by omega,show -128<=dV v by omega,show dV v<=127 by omega,Int.le_refl 0,show (0:Int)<=255 by omega⟩
theorem A0m(V:List Int)(k j:Nat):RSz (LP V k j) 10:=by
 unfold LP
 split
 .exact RSz.mono (Dj (by omega) (by omega):RSz _ 1) (by omega)
 .exact YJ (A1E _)
theorem Vm(V:List Int)(k:Nat):JS V k 0=zR:=by
 funext j
 rw [JS,if_neg (by omega)]
theorem XU(V:List Int)(k j:Nat):DS (JS V k j) j (LP V k j)=JS V k (j+1):=by
 funext i
 unfold DS JS
 rcases Nat.lt_trichotomy i j with h | h | h
 .rw [if_neg (by omega),if_pos h,if_pos (by omega)]
 .subst h
  rw [if_pos rfl,if_pos (by omega)]
 .rw [if_neg (by omega),if_neg (by omega),if_neg (by omega)]
theorem XV{V:List Int}{k n:Nat}:Bg (JS V k n) n=Bg (LP V k) n:=Di λj hj=>by rw [JS,if_pos hj]
theorem A0l(T:Nat)(V:List Int)(hV:Mr8 V)(k n:Nat)(h0:0<n)(hn:n<=100)(hk:k<=1000):Con Tryz.prog 61 [.d (BF [VG T V]),.d (ex (.int .i64 (k:Nat))),.d (ex (.int .i64 (n:Nat)))] [] [] (λr hp'=>∃g c,n<=c/\c<=9223372036854775807/\r = .d (sX g n c)/\hp'=[.dead,.var 24 ([VG T V].map .d),.dead,.obj (Bj [⟨g,42,Bg (LP V k) n⟩])]):=by
 by_cases hV0:V=[]
 .subst hV0
  have hl0:(([]:List Int)).length=0:=rfl
  refine FL Tryz.func61 rfl (AG Tryz.func61 (by kernel_rfl) (by kernel_rfl)) rfl λs0=>?_
  rw [Tryz.ntmps61]
  apply Y1;refine Bx ?_;refine Wa<|Y0<|Y1<|Wm ?_
  refine Kk [] [] (Gl n h0 (by omega)) ?_
  rintro _ _ ⟨g,c,hc1,hc2,rfl,rfl⟩
  refine Kr ?_
  refine Wa<|Y0<|Aa<|Y1<|Wa<|Y0<|AWp.block ?_
  refine AQ (λmz σ=>∃j,j<=0/\mz=0-j/\σ=⟨[(2,.d (ex (.int .i64 (n:Nat)))),(3,.ptr 1 0),(7,.d (sX g n c)),(8,.d (ex (.int .i64 (j:Nat))))],[.pin [],.var 24 ([VG T []].map .d),.dead,.obj (Bj [⟨g,42,Bg zR n⟩])]⟩) ?lej ⟨0,by omega,rfl,rfl⟩ ?roundj
  case lej=>exact Ak (by exact Yd<|Yp<|Yd<|Yd<|FrLe.nil) (by exact HpLe.cons (BA rfl)<|Yv<|HpLe.cons (OwLe.dead)<|HpLe.cons (OwLe.obj rfl)<|HpLe.nil)
  case roundj=>
   rintro mz _ ⟨j,hj,rfl,rfl⟩
   by_cases hltj:j<0
   .omega
   .obtain rfl:j=0:=by omega
    refine Aa<|Y1<|Wm<|Wm ?_;refine Wq Ai ?_;refine Wm ?_;refine Wg Aq ?_;refine Wg AI ?_;refine Wg AN ?_;refine Wg Aj ?_;refine Wq AE ?_;refine Y0<|Cf<|AP<|AA<|AF<|AB<|Yn<|Y1<|Wm<|Wa<|Y0<|At ?_
    refine Et (RetsA.one rfl) rfl ?_ rfl
    exact ⟨g,c,hc1,hc2,rfl,by rw [Di (f:=LP [] k) (g:=zR) λj _=>if_pos rfl]⟩
 .have hVl:0<V.length:=List.length_pos_iff.2 hV0
  refine FL Tryz.func61 rfl (AG Tryz.func61 (by kernel_rfl) (by kernel_rfl)) rfl λs0=>?_
  rw [Tryz.ntmps61]
  apply Y1;refine Bx ?_;refine Wa<|Y0<|Y1<|Wm ?_
  refine Kk [] [] (Gl n h0 (by omega)) ?_
  rintro _ _ ⟨g,c,hc1,hc2,rfl,rfl⟩
  refine Kr ?_
  refine Wa<|Y0<|Aa<|Y1<|Wa<|Y0<|AWp.block ?_
  refine AQ (λmz σ=>∃j,j<=n/\mz=n-j/\σ=⟨[(1,.d (ex (.int .i64 (k:Nat)))),(2,.d (ex (.int .i64 (n:Nat)))),(3,.ptr 1 0),(7,.d (sX g n c)),(8,.d (ex (.int .i64 (j:Nat))))],[.pin [],.var 24 ([VG T V].map .d),.dead,.obj (Bj [⟨g,42,Bg (JS V k j) n⟩])]⟩) ?lej ⟨0,by omega,rfl,rfl⟩ ?roundj
  case lej=>exact Ak (by exact Yd<|Yd<|Yp<|Yd<|Yd<|FrLe.nil) (by exact HpLe.cons (BA rfl)<|Yv<|HpLe.cons (OwLe.dead)<|HpLe.cons (OwLe.obj (by rw [Vm]))<|HpLe.nil)
  case roundj=>
   rintro mz _ ⟨j,hj,rfl,rfl⟩
   by_cases hltj:j<n
   .have hi:(k+j)%V.length<V.length:=Nat.mod_lt _ hVl
    have hv:=hV (V.getD ((k+j)%V.length) default) (by rw [List.getD_eq_getElem?_getD,List.getElem?_eq_getElem hi];exact List.getElem_mem _)
    have er:LP V k j=HA (qV (V.getD ((k+j)%V.length) default)):=if_neg hV0
    obtain ⟨v,hvg⟩:∃v,V.getD ((k+j)%V.length) default=v:=⟨_,rfl⟩
    have cq:Abs Tryz.prog 91 [BF [ex (.int .i8 (Int.tmod (V.getD ((k+j)%V.length) default) 4)),ex (.int .i8 (dV v)),ex (.int .u8 0)]] (BF (Bz (LP V k j))):=by rw [er,hvg];exact Vv _ (A1E v)
    have hset:SetAt (Bg (JS V k j) n) (j*4) (Bz (LP V k j)) (Bg (JS V k (j+1)) n):=by rw [<-XU];exact DH hltj
    rcases (show 90<v\/(¬90<v/\v < -90)\/(¬90<v/\¬v < -90) by omega) with hc | ⟨hc,hc'⟩ | ⟨hc,hc'⟩
    .rw [show dV v=2 by rw [dV, if_pos hc]] at cq
     refine Aa<|Y1<|Wm<|Wm ?_;refine Wq Ai ?_;refine Wm ?_;refine Wg Aq ?_;refine Wg AI ?_;refine Wg AN ?_;refine Wg Ai ?_;refine Wq AE ?_;refine Y0<|Ct<|Ys<|Aa<|AWp.block<|Aa ?_
     refine Dr [[],[(24,0)],[],[],[(26,2),(27,3)],[],[(29,5)],[(30,6)],[(28,4),(31,7)],[(25,1),(32,8)],[(33,9)]] [[],[0],[],[],[2,3],[],[5],[5,6],[2,3,4,5,6,7],[0,1,2,3,4,5,6,7,8],[0,1,2,3,4,5,6,7,8,9]] ?_
     refine Xq Aq ?_;refine Xq AI ?_;refine Xq Ae ?_;refine Xq Ae ?_;refine Xq EU ?_;refine Xq Aq ?_;refine Xq AI ?_;refine Xq AN ?_;refine Xq Co ?_;refine Xq (DQ (k:=(k+j)%V.length) rfl (ah rfl) (Ad rfl) (Ad rfl) rfl (by omega)) ?_;refine Xq BG ?_;refine ⟨_,rfl,?_⟩
     refine Wa<|Y0<|Y1<|Wa<|Y0<|Aa<|Y1<|Wm ?_;refine Wq Ai ?_;refine Y0<|Ct<|AWp.region<|Wa<|Y0<|Aa<|Y1<|Wm ?_;refine Wq Aj ?_;refine Y0<|Cf<|Ys<|AWp.region<|Wm<|Wm<|Wm ?_;refine Wq (PS (k:=.i8) (ao rfl) (ao rfl) (by decide)) ?_;refine Wm ?_;(refine Cr rfl rfl ?_;(refine BR (Ad rfl) rfl rfl rfl ?_;(repeat ((first | refine ⟨_,AO (ao rfl),?_⟩ | refine ⟨_,Po rfl,?_⟩);refine ⟨_,rfl,?_⟩));refine ⟨_,rfl,?_⟩));refine Wq (Af (cq)) ?_;refine Wq (BE (k:=j) (ao rfl) (ao rfl) (Ad rfl) (Ad rfl) hltj) ?_;refine EH (e:=⟨g,42,Bg (JS V k j) n⟩) 3 0 (ao rfl) (ao rfl) rfl rfl (Ad rfl) rfl hset rfl ?_;refine AWl.nil<|Ah<|Yn<|AWp.region<|Wm ?_;refine Wq AH ?_;refine Wa<|AWl.nil ?_
     refine ALoop.next (n-(j+1)) (by omega) ⟨j+1,by omega,rfl,rfl⟩ ?_
     exact Ak (by exact Yd<|Yd<|Yp<|Yd<|Yd<|FrLe.nil) (by exact HpLe.cons (BA rfl)<|Yv<|HpLe.cons (OwLe.dead)<|HpLe.cons (OwLe.obj rfl)<|HpLe.nil)
    .rw [show dV v=3 by rw [dV, if_neg hc, if_pos hc']] at cq
     refine Aa<|Y1<|Wm<|Wm ?_;refine Wq Ai ?_;refine Wm ?_;refine Wg Aq ?_;refine Wg AI ?_;refine Wg AN ?_;refine Wg Ai ?_;refine Wq AE ?_;refine Y0<|Ct<|Ys<|Aa<|AWp.block<|Aa ?_
     refine Dr [[],[(24,0)],[],[],[(26,2),(27,3)],[],[(29,5)],[(30,6)],[(28,4),(31,7)],[(25,1),(32,8)],[(33,9)]] [[],[0],[],[],[2,3],[],[5],[5,6],[2,3,4,5,6,7],[0,1,2,3,4,5,6,7,8],[0,1,2,3,4,5,6,7,8,9]] ?_
     refine Xq Aq ?_;refine Xq AI ?_;refine Xq Ae ?_;refine Xq Ae ?_;refine Xq EU ?_;refine Xq Aq ?_;refine Xq AI ?_;refine Xq AN ?_;refine Xq Co ?_;refine Xq (DQ (k:=(k+j)%V.length) rfl (ah rfl) (Ad rfl) (Ad rfl) rfl (by omega)) ?_;refine Xq BG ?_;refine ⟨_,rfl,?_⟩
     refine Wa<|Y0<|Y1<|Wa<|Y0<|Aa<|Y1<|Wm ?_;refine Wq Aj ?_;refine Y0<|Cf<|Ys<|Aa<|Y1<|Wm ?_;refine Wq Ai ?_;refine Y0<|Ct<|AWp.region<|Wa<|Y0<|AWp.region<|Wm<|Wm<|Wm ?_;refine Wq (PS (k:=.i8) (ao rfl) (ao rfl) (by decide)) ?_;refine Wm ?_;(refine Cr rfl rfl ?_;(refine BR (Ad rfl) rfl rfl rfl ?_;(repeat ((first | refine ⟨_,AO (ao rfl),?_⟩ | refine ⟨_,Po rfl,?_⟩);refine ⟨_,rfl,?_⟩));refine ⟨_,rfl,?_⟩));refine Wq (Af (cq)) ?_;refine Wq (BE (k:=j) (ao rfl) (ao rfl) (Ad rfl) (Ad rfl) hltj) ?_;refine EH (e:=⟨g,42,Bg (JS V k j) n⟩) 3 0 (ao rfl) (ao rfl) rfl rfl (Ad rfl) rfl hset rfl ?_;refine AWl.nil<|Ah<|Yn<|AWp.region<|Wm ?_;refine Wq AH ?_;refine Wa<|AWl.nil ?_
     refine ALoop.next (n-(j+1)) (by omega) ⟨j+1,by omega,rfl,rfl⟩ ?_
     exact Ak (by exact Yd<|Yd<|Yp<|Yd<|Yd<|FrLe.nil) (by exact HpLe.cons (BA rfl)<|Yv<|HpLe.cons (OwLe.dead)<|HpLe.cons (OwLe.obj rfl)<|HpLe.nil)
    .rw [show dV v=1 by rw [dV, if_neg hc, if_neg hc']] at cq
     refine Aa<|Y1<|Wm<|Wm ?_;refine Wq Ai ?_;refine Wm ?_;refine Wg Aq ?_;refine Wg AI ?_;refine Wg AN ?_;refine Wg Ai ?_;refine Wq AE ?_;refine Y0<|Ct<|Ys<|Aa<|AWp.block<|Aa ?_
     refine Dr [[],[(24,0)],[],[],[(26,2),(27,3)],[],[(29,5)],[(30,6)],[(28,4),(31,7)],[(25,1),(32,8)],[(33,9)]] [[],[0],[],[],[2,3],[],[5],[5,6],[2,3,4,5,6,7],[0,1,2,3,4,5,6,7,8],[0,1,2,3,4,5,6,7,8,9]] ?_
     refine Xq Aq ?_;refine Xq AI ?_;refine Xq Ae ?_;refine Xq Ae ?_;refine Xq EU ?_;refine Xq Aq ?_;refine Xq AI ?_;refine Xq AN ?_;refine Xq Co ?_;refine Xq (DQ (k:=(k+j)%V.length) rfl (ah rfl) (Ad rfl) (Ad rfl) rfl (by omega)) ?_;refine Xq BG ?_;refine ⟨_,rfl,?_⟩
     refine Wa<|Y0<|Y1<|Wa<|Y0<|Aa<|Y1<|Wm ?_;refine Wq Aj ?_;refine Y0<|Cf<|Ys<|Aa<|Y1<|Wm ?_;refine Wq Aj ?_;refine Y0<|Cf<|Ys<|AWp.region<|Wm<|Wm<|Wm ?_;refine Wq (PS (k:=.i8) (ao rfl) (ao rfl) (by decide)) ?_;refine Wm ?_;(refine Cr rfl rfl ?_;(refine BR (Ad rfl) rfl rfl rfl ?_;(repeat ((first | refine ⟨_,AO (ao rfl),?_⟩ | refine ⟨_,Po rfl,?_⟩);refine ⟨_,rfl,?_⟩));refine ⟨_,rfl,?_⟩));refine Wq (Af (cq)) ?_;refine Wq (BE (k:=j) (ao rfl) (ao rfl) (Ad rfl) (Ad rfl) hltj) ?_;refine EH (e:=⟨g,42,Bg (JS V k j) n⟩) 3 0 (ao rfl) (ao rfl) rfl rfl (Ad rfl) rfl hset rfl ?_;refine AWl.nil<|Ah<|Yn<|AWp.region<|Wm ?_;refine Wq AH ?_;refine Wa<|AWl.nil ?_
     refine ALoop.next (n-(j+1)) (by omega) ⟨j+1,by omega,rfl,rfl⟩ ?_
     exact Ak (by exact Yd<|Yd<|Yp<|Yd<|Yd<|FrLe.nil) (by exact HpLe.cons (BA rfl)<|Yv<|HpLe.cons (OwLe.dead)<|HpLe.cons (OwLe.obj rfl)<|HpLe.nil)
   .obtain rfl:n=j:=by omega
    refine Aa<|Y1<|Wm<|Wm ?_;refine Wq Aj ?_;refine Wm ?_;refine Ws ?_;refine Ws ?_;refine Ws ?_;refine Ws ?_;refine Wq Az ?_;refine Y0<|Cf<|AP<|AA<|AF<|AB<|Yn<|Y1<|Wm<|Wa<|Y0<|At ?_
    refine Et (RetsA.one rfl) rfl ?_ rfl
    exact ⟨g,c,hc1,hc2,rfl,by rw [XV]⟩
def Jt(V:List Int)(c:Nat)(i j:Nat):Rat:=LP V (i*c) j
def IP(M:Nat->Nat->Rat)(i j:Nat):Rat:=if j<i then M j i else M i j
def GV(M:Nat->Nat->Rat)(k q i j:Nat):Rat:=if i<k\/(i=k/\j<q) then IP M i j else M i j
theorem QQ(V:List Int)(c i j:Nat):RSz (Jt V c i j) 10:=A0m V _ _
theorem Hset.row{s:GS}{f:Nat->Rat}{b n cap:Nat}(h:Hset s ⟨b,42,Bg f n⟩)(h1:n<=cap)(h2:cap<=9223372036854775807):(Jl f n).rel s (.slice (some ⟨b,0,none⟩) n cap):=by
 have hl:=Hs f n
 refine h.sl (rows:=LR f n) rfl hl h1 h2 (λk hk=>?_) λk j hk hj=>?_
 .rw [hl] at hk
  rw [LR,List.getD_eq_getElem?_getD,List.getElem?_map,List.getElem?_range hk]
  exact Dh _
 .rw [hl] at hk
  have e1:(LR f n).getD k []=Bz (f k):=by
   rw [LR,List.getD_eq_getElem?_getD,List.getElem?_map,List.getElem?_range hk]
   rfl
  refine ⟨?_,?_⟩
  .show k*4+j<(Bg f n).length
   rw [Cu]
   omega
  .rw [e1]
   show Cj (Bg f n) (k*4+j)=_
   unfold Cj
   rw [List.getD_eq_getElem?_getD,List.getD_eq_getElem?_getD,HH f hk hj]
theorem A0d{s:GS}{T sz:Nat}{rows rows':List (List D)}(hl:rows.length=rows'.length)(h:∀k,k<rows.length->(rows.getD k []).length=(rows'.getD k []).length/\∀j,j<(rows.getD k []).length->∀u,(Cj (rows.getD k []) j).rel s u->(Cj (rows'.getD k []) j).rel s u){v:Value}(hv:(slD T sz rows).rel s v):(slD T sz rows').rel s v:=by
 obtain ⟨A,c,e,h1,h2,h3⟩:=hv
 refine ⟨A,c,by rw [e,hl],by rw [<-hl];exact h1,h2,λh0=>?_⟩
 rw [<-hl] at h0
 obtain ⟨b,o,e1,h4⟩:=h3 h0
 refine ⟨b,o,e1,λk hk=>?_⟩
 rw [<-hl] at hk
 obtain ⟨h5,cs,fz,h6,h7⟩:=h4 k hk
 obtain ⟨h8,h9⟩:=h k hk
 refine ⟨h8▸h5,cs,fz,h6,λj hj=>?_⟩
 rw [<-h8] at hj
 obtain ⟨h10,u,h11,h12,h13⟩:=h7 j hj
 exact ⟨h10,u,h11,h12,h9 j hj u h13⟩
def DC(m n:Nat)(b:Nat->Nat)(M:Nat->Nat->Rat):List HE:=(List.range m).map λi=>⟨b i,42,Bg (M i) n⟩
def CU(m n:Nat)(b c:Nat->Nat):List (List D):=(List.range m).map λi=>[sX (b i) n (c i)]
theorem Qq{s:GS}{m n:Nat}{b c:Nat->Nat}{M:Nat->Nat->Rat}(h:∀e∈DC m n b M,Hset s e)(hc:∀i,i<m->n<=c i/\c i<=9223372036854775807){v:Value}(hv:(slD 62 1 (CU m n b c)).rel s v):(BY m n M).rel s v:=by
 refine A0d (by simp [CU]) (λk hk=>?_) hv
 have hk':k<m:=by simpa [CU] using hk
 have e1:(CU m n b c).getD k []=[sX (b k) n (c k)]:=by simp [CU,hk']
 have e2:((List.range m).map λi=>[Jl (M i) n]).getD k []=[Jl (M k) n]:=by simp [hk']
 rw [e1,e2]
 refine ⟨rfl,λj hj u hu=>?_⟩
 obtain rfl:j=0:=by simpa using hj
 obtain rfl:u = .slice (some ⟨b k,0,none⟩) n (c k):=hu
 exact Hset.row (h _ (List.mem_map.2 ⟨k,List.mem_range.2 hk',rfl⟩)) (hc k hk').1 (hc k hk').2
theorem LN{m n g:Nat}{b:Nat->Nat}{M:Nat->Nat->Rat}:DC m n b M++[⟨g,42,Bg (M m) n⟩]=DC (m+1) n (DS b m g) M:=by
 simp only [DC,List.range_succ,List.map_append,List.map_cons,List.map_nil,DS]
 congr 1
 apply List.map_congr_left
 intro i hi
 have:=List.mem_range.1 hi
 rw [if_neg (by omega)]
theorem LO{m n g cg:Nat}{b c:Nat->Nat}:CU m n b c++[[sX g n cg]]=CU (m+1) n (DS b m g) (DS c m cg):=by
 simp only [CU,List.range_succ,List.map_append,List.map_cons,List.map_nil,DS]
 congr 1
 apply List.map_congr_left
 intro i hi
 have:=List.mem_range.1 hi
 rw [if_neg (by omega),if_neg (by omega)]
theorem Qv{m n i:Nat}{b:Nat->Nat}{M:Nat->Nat->Rat}(h:i<m):(DC m n b M)[i]? = some ⟨b i,42,Bg (M i) n⟩:=by simp [DC,h]
theorem Vl{m n i j:Nat}{b:Nat->Nat}{M:Nat->Nat->Rat}{v:Rat}(h:i<m):(DC m n b M).set i ⟨b i,42,Bg (DS (M i) j v) n⟩=DC m n b (Sh M i j v):=by
 apply List.ext_getElem?
 intro q
 rw [List.getElem?_set]
 by_cases hq:q<m
 .split
  .rename_i e
   subst e
   simp [DC,hq,Sh,DS]
  .rename_i e
   simp only [DC,List.getElem?_map,List.getElem?_range hq,Option.map_some,Sh]
   rw [DS,if_neg (λh=>e h.symm)]
 .split
  .omega
  .rw [List.getElem?_eq_none (by simp [DC];omega),List.getElem?_eq_none (by simp [DC];omega)]
theorem Qu{m n:Nat}{b:Nat->Nat}{M M':Nat->Nat->Rat}(h:∀i,i<m->∀j,j<n->M i j=M' i j):DC m n b M=DC m n b M':=by
 unfold DC
 apply List.map_congr_left
 intro i hi
 rw [Di (h i (List.mem_range.1 hi))]
def KV(m:Nat)(len b c:Nat->Nat):List D:=(List.range m).map λi=>sX (b i) (len i) (c i)
def EM(m:Nat)(len:Nat->Nat)(b0:Nat)(b c:Nat->Nat)(N:Nat->Nat->Rat):List HE:=
 ⟨b0,62,KV m len b c⟩::(List.range m).map λi=>⟨b i,42,Bg (N i) (len i)⟩
theorem Kc{m i b0:Nat}{len b c:Nat->Nat}{N:Nat->Nat->Rat}(h:i<m):(EM m len b0 b c N)[i+1]? = some ⟨b i,42,Bg (N i) (len i)⟩:=by simp [EM,h]
theorem Kp(m:Nat)(len b c:Nat->Nat):(KV m len b c).length=m:=by simp [KV]
theorem JL{m i:Nat}{len b c:Nat->Nat}(h:i<m):CellAt (KV m len b c) (i*1) (sX (b i) (len i) (c i)):=by
 rw [Nat.mul_one]
 exact ⟨by rw [Kp];exact h,by simp [KV,Cj,h]⟩
theorem VT{m i j b0:Nat}{len b c:Nat->Nat}{N:Nat->Nat->Rat}{v:Rat}(h:i<m):(EM m len b0 b c N).set (i+1) ⟨b i,42,Bg (DS (N i) j v) (len i)⟩=EM m len b0 b c (Sh N i j v):=by
 simp only [EM,List.set_cons_succ]
 congr 1
 apply List.ext_getElem?
 intro k
 rw [List.getElem?_set]
 by_cases hk:k<m
 .by_cases e:i=k
  .subst e
   rw [if_pos rfl,if_pos (by simpa using h),List.getElem?_map,List.getElem?_range h]
   simp [Sh,DS]
  .rw [if_neg e,List.getElem?_map,List.getElem?_map,List.getElem?_range hk]
   have:¬k=i:=λh=>e h.symm
   simp [Sh,DS,this]
 .have e:¬i=k:=by omega
  rw [if_neg e,List.getElem?_eq_none (by simpa using hk),List.getElem?_eq_none (by simpa using hk)]
theorem YP{s:GS}{m n b0 c0:Nat}{len b c:Nat->Nat}{N:Nat->Nat->Rat}(h:∀e∈EM m len b0 b c N,Hset s e)(hlen:∀i,i<m->len i=n)(hc:∀i,i<m->n<=c i/\c i<=9223372036854775807)(h0:m<=c0)(h0':c0<=9223372036854775807){v:Value}(hv:(sX b0 m c0).rel s v):(BY m n N).rel s v:=by
 obtain rfl:v = .slice (some ⟨b0,0,none⟩) m c0:=hv
 have ht:KV m len b c=KV m (λ_=>n) b c:=List.map_congr_left λi hi=>by rw [hlen i (List.mem_range.1 hi)]
 have hr:((List.range m).map λi=>(⟨b i,42,Bg (N i) (len i)⟩:HE))=DC m n b N:=List.map_congr_left λi hi=>by rw [hlen i (List.mem_range.1 hi)]
 rw [EM,ht,hr] at h
 have hd:∀k,k<m->(CU m n b c).getD k []=[sX (b k) n (c k)]:=λk hk=>by simp [CU,hk]
 refine Qq (b:=b) (c:=c) (λe he=>h e (List.mem_cons_of_mem _ he)) hc ((h _ List.mem_cons_self).sl rfl (by simp [CU]) h0 h0' (λk hk=>by rw [hd k (by simpa [CU] using hk)];rfl) λk j hk hj=>?_)
 have hk:k<m:=by simpa [CU] using hk
 obtain rfl:j=0:=by omega
 rw [hd k hk,Nat.mul_one,Nat.add_zero]
 exact ⟨by show k<(KV m (λ_=>n) b c).length;rw [Kp];exact hk,by simp [KV,Cj,hk]⟩
section
variable {P:Program} {s0:An} {n:Nat} {Q:Exit->AS->Prop} {fr:List (Nat×AV)} {hp hp':List Ow}
end
def Mc:List (Nat->Int):=[λ_=>0,Gm 0,Gm 1,λi=>if i<2 then 1 else 0]
def lS(o:Nat):Nat->List (Nat->Int)
 | 0=>Mc
 | k+1=>(lS o k).take (o%(lS o k).length)++(lS o k).drop (o%(lS o k).length+1)
def oS(o:Nat):Nat->List (Nat->Int)
 | 0=>[]
 | k+1=>oS o k++[(lS o k).getD (o%(lS o k).length) default]
theorem Kb(o:Nat):∀k,k<=4->(lS o k).length=4-k
 | 0,_=>rfl
 | k+1,h=>by
  have ih:=Kb o k (by omega)
  have hm:o%(lS o k).length<(lS o k).length:=Nat.mod_lt _ (by omega)
  rw [lS,List.length_append,List.length_take,List.length_drop]
  omega
theorem Gv(o:Nat):∀k,(oS o k).length=k
 | 0=>rfl
 | k+1=>by rw [oS,List.length_append,Gv o k];rfl
theorem SL(o:Nat):∀k,∀m∈lS o k,m∈Mc
 | 0,m,h=>h
 | k+1,m,h=>by
  rw [lS] at h
  rcases List.mem_append.1 h with h | h
  .exact SL o k m (List.mem_of_mem_take h)
  .exact SL o k m (List.mem_of_mem_drop h)
theorem SD(o:Nat):∀k,k<=4->∀m∈oS o k,m∈Mc
 | 0,_,m,h=>by cases h
 | k+1,hk,m,h=>by
  rw [oS] at h
  rcases List.mem_append.1 h with h | h
  .exact SD o k (by omega) m h
  .rw [List.mem_singleton.1 h]
   have hl:=Kb o k (by omega)
   have hm:o%(lS o k).length<(lS o k).length:=Nat.mod_lt _ (by omega)
   apply SL o k
   rw [List.getD_eq_getElem?_getD,List.getElem?_eq_getElem hm]
   exact List.getElem_mem _
theorem YE:∀m∈Mc,In8 m 0 1:=λm hm=>by
 simp only [Mc,List.mem_cons,List.not_mem_nil,or_false] at hm
 rcases hm with rfl | rfl | rfl | rfl
 .exact λi _=>⟨Int.le_refl _,Int.zero_le_ofNat 1⟩
 .exact Hm
 .exact Hm
 .intro i _
  show 0<=(if i<2 then (1:Int) else 0)/\(if i<2 then (1:Int) else 0)<=1
  split<;>omega
theorem Yx(o k:Nat)(hk:k<=4):∀m∈oS o k,In8 m 0 1:=λm hm=>YE m (SD o k hk m hm)
theorem VH(o n:Nat)(ho:o<256)(hn:n<=4):Abs Tryz.prog 6 [ex (.int .u8 (o:Nat)),ex (.int .i64 (n:Nat))] (Js (oS o n)):=by
 refine Ab Tryz.func6 λs0=>?_
 rw [Tryz.ntmps6]
 refine Y1<|Wa<|Y0<|Y1 ?_;(refine Cr rfl rfl ?_;(refine FM (Ad rfl) (Ad rfl) rfl rfl ?_;(repeat ((first | refine ⟨_,AO (ao rfl),?_⟩ | refine ⟨_,Po rfl,?_⟩);refine ⟨_,rfl,?_⟩));refine ⟨_,rfl,?_⟩));(refine Cr rfl rfl ?_;(refine FM (Ad rfl) (Ad rfl) rfl rfl ?_;(repeat ((first | refine ⟨_,AO (ao rfl),?_⟩ | refine ⟨_,Po rfl,?_⟩);refine ⟨_,rfl,?_⟩));refine ⟨_,rfl,?_⟩));(refine Cr rfl rfl ?_;(refine FM (Ad rfl) (Ad rfl) rfl rfl ?_;(repeat ((first | refine ⟨_,AO (ao rfl),?_⟩ | refine ⟨_,Po rfl,?_⟩);refine ⟨_,rfl,?_⟩));refine ⟨_,rfl,?_⟩));(refine Cr rfl rfl ?_;(refine FM (Ad rfl) (Ad rfl) rfl rfl ?_;(repeat ((first | refine ⟨_,AO (ao rfl),?_⟩ | refine ⟨_,Po rfl,?_⟩);refine ⟨_,rfl,?_⟩));refine ⟨_,rfl,?_⟩));(refine Cr rfl rfl ?_;(refine Cx (Ad rfl) (Ad rfl) rfl rfl rfl rfl rfl ?_;(repeat ((first | refine ⟨_,AO (ao rfl),?_⟩ | refine ⟨_,Po rfl,?_⟩);refine ⟨_,rfl,?_⟩));refine ⟨_,rfl,?_⟩));refine Wa<|Y0<|Y1 ?_;refine EA (Ad rfl) (Ad rfl) rfl rfl rfl rfl rfl ?_;refine Wa<|Y0<|Aa<|Y1<|Wa<|Y0<|AWp.block ?_
 refine AQ (λmz σ=>∃k,k<=n/\mz=n-k/\σ=⟨[(0,.d (ex (.int .u8 (o:Nat)))),(1,.d (ex (.int .i64 (n:Nat)))),(5,.d (Js (lS o k))),(6,.own 0),(7,.d (ex (.int .i64 (k:Nat))))],[.row 60 8 ((oS o k).map BW)]⟩) ?le ⟨0,by omega,rfl,rfl⟩ ?round
 case le=>exact Ak (by exact Yd<|Yd<|Yd<|FrLe.cons rfl (AVle.own rfl)<|Yd<|FrLe.nil) (by exact Yr<|HpLe.nil)
 case round=>
  rintro mz _ ⟨k,hk,rfl,rfl⟩
  by_cases hlt:k<n
  .have hl:=Kb o k (by omega)
   have hol:=Gv o k
   have hm:o%(lS o k).length<(lS o k).length:=Nat.mod_lt _ (by omega)
   have hr0:(0:Int)<=(o:Int)%((lS o k).length:Int):=Int.emod_nonneg _ (by omega)
   have hr1:(o:Int)%((lS o k).length:Int)<((lS o k).length:Int):=Int.emod_lt_of_pos _ (by omega)
   refine Aa<|Y1<|Wm<|Wm ?_;refine Wq Ai ?_;refine Wm ?_;refine Wg Ae ?_;refine Wg Ai ?_;refine Wq AE ?_;refine Y0<|Ct<|Ys<|Aa<|AWp.block<|Y1<|Wm ?_;refine Wq BD ?_;refine Wm ?_;refine Wq AN ?_;refine Wq Co ?_;refine Wa<|Y0<|Y1<|Wm<|Wm<|Wm ?_;refine Wq (DQ (k:=o%(lS o k).length) rfl (ao rfl) (Ad rfl) (Ad rfl) rfl hm) ?_;refine Wq As ?_;refine Wq (BJ (ao rfl) (Ad rfl) (Ad rfl) rfl rfl rfl rfl rfl) ?_;(refine Ap ?_);refine Wa<|Y0 ?_
   refine AWp.any (by kernel_rfl) ?_
   refine FN 1 rfl rfl rfl (by kernel_rfl) (by kernel_rfl) (by kernel_rfl) rfl (PureQ.move rfl (ao rfl)) ?_
   refine FN 2 rfl rfl rfl (by kernel_rfl) (by kernel_rfl) (by kernel_rfl) rfl (PureQ.move rfl (ao rfl)) ?_
   refine FN 3 rfl rfl rfl (by kernel_rfl) (by kernel_rfl) (by kernel_rfl) rfl (RO (f:=BW) (l:=lS o k) (i:=o%(lS o k).length) rfl rfl (ao rfl) (Ad rfl) (Ad rfl) rfl (Nat.le_of_lt hm)) ?_
   refine FN 5 rfl rfl rfl (by kernel_rfl) (by kernel_rfl) (by kernel_rfl) rfl (PureQ.move rfl (ao rfl)) ?_
   refine FN 6 rfl rfl rfl (by kernel_rfl) (by kernel_rfl) (by kernel_rfl) rfl (PureQ.move rfl (ao rfl)) ?_
   refine FN 7 rfl rfl rfl (by kernel_rfl) (by kernel_rfl) (by kernel_rfl) rfl (PureQ.add rfl (ao rfl) (ao rfl) (by omega) (by omega)) ?_
   refine FN 8 rfl rfl rfl (by kernel_rfl) (by kernel_rfl) (by kernel_rfl) rfl (RP (f:=BW) (l:=lS o k) (i:=o%(lS o k).length+1) rfl rfl (ao rfl) (Ad rfl) (Ad rfl) rfl hm) ?_
   refine AWy.seq [0,4,9,10] (by kernel_rfl) (by kernel_rfl) rfl ?_
   refine EA (Ad rfl) (Ad rfl) rfl rfl rfl rfl rfl ?_;(refine Ap ?_);(refine Ap ?_);refine Wa<|AWl.nil ?_;apply OnlyN.mk';refine Ah<|Yn<|AWp.region<|Wm ?_;refine Wq AH ?_;refine Wa<|AWl.nil ?_
   refine ALoop.next (n-(k+1)) (by omega) ⟨k+1,by omega,rfl,rfl⟩ ?_
   exact Ak (by refine Yd ?_;refine Yd ?_;(refine FrLe.cons rfl (Ko rfl (Be (by rw [Js,lS,List.map_append];rfl))) ?_);exact FrLe.cons rfl (AVle.own rfl)<|Yd<|FrLe.nil) (by (refine HpLe.cons (Cg (by rw [oS,List.map_append];rfl)) ?_);exact HpLe.nil)
  .obtain rfl:n=k:=by omega
   refine Aa<|Y1<|Wm<|Wm ?_;refine Wq Aj ?_;refine Wm ?_;refine Ws ?_;refine Ws ?_;refine Wq Az ?_;refine Y0<|Cf<|AP<|AA<|AF<|AB<|Yn<|Y1<|Wm<|Wa<|Y0<|At ?_
   exact Yf
abbrev qF(M:Nat->Nat->Rat)(n:Nat)(x:Nat->Rat):Rat:=HG (λi j=>x i*x j) M n
theorem Ed{f:Nat->Rat}{p:Nat}:∀{n:Nat},p<n->(∀k,k<n->k≠p->f k=0)->BS n f=f p
 | n+1,hp,h=>by
  rw [BS]
  by_cases e:p=n
  .subst e
   rw [Ex λk hk=>h k (by omega) (by omega)]
   grind
  .rw [Ed (n:=n) (by omega) λk hk hkp=>h k (by omega) hkp, h n (by omega) (λe'=>e e'.symm)]
   grind
theorem TY{c x:Nat->Rat}{p:Nat}{v:Rat}:∀{n:Nat},p<n->BS n (λi=>c i*DS x p v i)=BS n (λi=>c i*x i)+c p*(v-x p)
 | n+1,hp=>by
  rw [BS,BS]
  by_cases e:p=n
  .subst e
   rw [Cz (g:=λi=>c i*x i) λk hk=>by rw [DS,if_neg (by omega)],DS,if_pos rfl]
   grind
  .rw [TY (n:=n) (by omega), DS, if_neg (λe'=>e e'.symm)]
   grind
theorem A0s{M:Nat->Nat->Rat}{n p:Nat}(h1:∀j,j<n->M p j=0)(h2:∀i,i<n->M i p=0)(x:Nat->Rat)(v:Rat):qF M n (DS x p v)=qF M n x:=by
 refine Cz λi hi=>Cz λj hj=>?_
 by_cases e:i=p
 .subst e
  rw [h1 j hj,Rat.zero_mul,Rat.zero_mul]
 .by_cases e':j=p
  .subst e'
   rw [h2 i hi,Rat.zero_mul,Rat.zero_mul]
  .simp only [DS,if_neg e,if_neg e']
theorem OQ{M:Nat->Nat->Rat}{p:Nat}(h0:M p p≠0)(j:Nat):Gq M p p j=0:=by
 rw [Gq,Rat.div_def,Rat.mul_inv_cancel _ h0,Rat.one_mul]
 grind
theorem Qx{M:Nat->Nat->Rat}(hs:∀i j,M i j=M j i)(p i j:Nat):Gq M p i j=Gq M p j i:=by
 rw [Gq,Gq,hs j i,Rat.div_def,Rat.div_def]
 grind
theorem A0p{M:Nat->Nat->Rat}{p:Nat}(hs:∀i j,M i j=M j i)(h0:M p p≠0)(i:Nat):Gq M p i p=0:=by
 rw [Qx hs,OQ h0]
theorem Fm{M:Nat->Nat->Rat}(hs:∀i j,M i j=M j i):∀k i j,AJ M k i j=AJ M k j i
 | 0,i,j=>hs i j
 | k+1,i,j=>by
  rw [AJ]
  split
  .exact Fm hs k i j
  .exact Qx (Fm hs k) k i j
theorem A1X{M:Nat->Nat->Rat}{p n:Nat}(hp:p<n)(hs:∀i j,M i j=M j i)(h0:M p p≠0)(h:∀x,0<=qF M n x)(x:Nat->Rat):0<=qF (Gq M p) n x:=by
 obtain ⟨s,hs'⟩:∃s,s=BS n λi=>M p i/M p p*x i:=⟨_,rfl⟩
 have hz:BS n (λi=>M p i/M p p*DS x p (x p-s) i)=0:=by
  rw [TY hp,<-hs',Rat.div_def,Rat.mul_inv_cancel _ h0]
  grind
 have hr:=QX (λi j=>DS x p (x p-s) i*DS x p (x p-s) j) (n:=n) h0
 have hq:BS n (λi=>M p i/M p p*BS n λj=>M p j/M p p*(DS x p (x p-s) i*DS x p (x p-s) j))=0:=Ex λi _=>by
  rw [Cz (g:=λj=>DS x p (x p-s) i*(M p j/M p p*DS x p (x p-s) j)) λj _=>by grind,Gn,hz]
  grind
 rw [hq] at hr
 have hf:=A0s (M:=Gq M p) (n:=n) (p:=p) (λj _=>OQ h0 j) (λi _=>A0p hs h0 i) x (x p-s)
 have:=h (DS x p (x p-s))
 unfold qF at hf this ⊢
 rw [<-hf]
 rw [hr] at this
 grind
theorem Un{M:Nat->Nat->Rat}{n:Nat}(hs:∀i j,M i j=M j i)(h:∀x,0<=qF M n x):∀k,k<=n->∀x,0<=qF (AJ M k) n x
 | 0,_,x=>h x
 | k+1,hk,x=>by
  have ih:=Un hs h k (by omega)
  rw [AJ]
  split
  .exact ih x
  .rename_i h0
   exact A1X (by omega) (Fm hs k) h0 ih x
def NK(p j:Nat)(t u:Rat)(i:Nat):Rat:=if i=p then t else if i=j then u else 0
theorem Ye{M:Nat->Nat->Rat}{n p:Nat}(hp:p<n):qF M n (NK p p 1 0)=M p p:=by
 unfold qF HG
 have hz:∀k,k≠p->NK p p 1 0 k=0:=λk hk=>by rw [NK,if_neg hk,if_neg hk]
 have h1:NK p p 1 0 p=1:=if_pos rfl
 rw [Ed hp λi _ hi=>Ex λj _=>show M i j*(NK p p 1 0 i*NK p p 1 0 j)=0 by rw [hz i hi,Rat.zero_mul,Rat.mul_zero],Ed hp λj _ hj=>show M p j*(NK p p 1 0 p*NK p p 1 0 j)=0 by rw [hz j hj,Rat.mul_zero,Rat.mul_zero]]
 show M p p*(NK p p 1 0 p*NK p p 1 0 p)=M p p
 rw [h1]
 grind
theorem TZ{f:Nat->Rat}{n p j:Nat}{t u:Rat}(hp:p<n)(hj:j<n)(hjp:j≠p):BS n (λi=>f i*NK p j t u i)=f p*t+f j*u:=by
 have h1:BS n (λi=>f i*NK p j t u i)=BS n (λi=>if i=p then f p*t else 0)+BS n (λi=>if i=j then f j*u else 0):=by
  rw [<-Jc]
  refine Cz λi _=>?_
  unfold NK
  by_cases e:i=p
  .subst e
   rw [if_pos rfl,if_pos rfl,if_neg (λe=>hjp e.symm)]
   grind
  .rw [if_neg e,if_neg e]
   by_cases e':i=j
   .subst e'
    rw [if_pos rfl,if_pos rfl]
    grind
   .rw [if_neg e',if_neg e']
    grind
 rw [h1,Ed hp λk _ hk=>if_neg hk,Ed hj λk _ hk=>if_neg hk,if_pos rfl,if_pos rfl]
theorem A1W{M:Nat->Nat->Rat}{n p j:Nat}{t u:Rat}(hp:p<n)(hj:j<n)(hjp:j≠p)(hs:∀i j,M i j=M j i):qF M n (NK p j t u)=M p p*(t*t)+2*(M p j*(t*u))+M j j*(u*u):=by
 unfold qF HG
 rw [Cz (g:=λi=>(M i p*t+M i j*u)*NK p j t u i) λi _=>by
  rw [Cz (g:=λk=>NK p j t u i*(M i k*NK p j t u k)) λk _=>by grind,Gn,TZ hp hj hjp]
  grind,TZ hp hj hjp,hs j p]
 grind
theorem A0u{M:Nat->Nat->Rat}{n p:Nat}(hp:p<n)(hs:∀i j,M i j=M j i)(h:∀x,0<=qF M n x):0<=M p p/\(M p p=0->∀j,j<n->M p j=0):=by
 have h1:=h (NK p p 1 0)
 rw [Ye hp] at h1
 refine ⟨h1,λh0 j hj=>?_⟩
 by_cases e:j=p
 .rw [e];exact h0
 .by_cases hb:M p j=0
  .exact hb
  .exfalso
   have h2:∀t,0<=2*(M p j*t)+M j j:=λt=>by
    have:=h (NK p j t 1)
    rw [A1W hp hj e hs,h0] at this
    grind
   have h3:=h2 (-(M j j+1)/M p j)
   have h4:M p j*(-(M j j+1)/M p j) = -(M j j+1):=by
    rw [Rat.div_def,Rat.mul_comm (-(M j j+1)),<-Rat.mul_assoc,Rat.mul_inv_cancel _ hb,Rat.one_mul]
   rw [h4] at h3
   have h5:=h (NK j j 1 0)
   rw [Ye hj] at h5
   grind
theorem A3c{M:Nat->Nat->Rat}{n:Nat}(hs:∀i j,M i j=M j i)(h:∀x,0<=qF M n x)(k:Nat)(hk:k<n):DF M n k:=
 A0u hk (Fm hs k) (Un hs h k (by omega))
section
variable {M:Nat->Nat->Rat} {N:Nat} (hs:∀i j,M i j=M j i) (hok:∀k,k<N->DF M N k)
include hs hok
theorem Lj:∀k,k<=N->∀i,i<k->∀j,j<N->AJ M k i j=0
 | 0,_,i,h,_,_=>absurd h (Nat.not_lt_zero i)
 | k+1,hk,i,h,j,hj=>by
  have ih:=Lj k (by omega)
  rw [AJ]
  by_cases e:i=k
  .subst e
   split
   .rename_i h0
    exact (hok i (by omega)).2 h0 j hj
   .rename_i h0
    exact OQ h0 j
  .split
   .exact ih i (by omega) j hj
   .rw [Gq, ih i (by omega) j hj, Fm hs k k i, ih i (by omega) k (by omega), Rat.div_def, Rat.zero_mul, Rat.zero_mul]
    grind
end
def NJ(M:Nat->Nat->Rat)(t:Nat):Rat:=AJ M t t t
def Kw(M:Nat->Nat->Rat)(t i:Nat):Rat:=AJ M t t i/AJ M t t t
theorem A0v(M:Nat->Nat->Rat)(k i j:Nat):AJ M k i j=NJ M k*(Kw M k i*Kw M k j)+AJ M (k+1) i j:=by
 rw [AJ]
 split
 .rename_i h0
  rw [NJ,h0,Rat.zero_mul,Rat.zero_add]
 .rename_i h0
  rw [Gq,NJ,Kw,Kw]
  have hd:AJ M k k j/AJ M k k k*AJ M k k k=AJ M k k j:=by rw [Rat.div_def,Rat.mul_assoc,Rat.inv_mul_cancel _ h0,Rat.mul_one]
  generalize AJ M k k j/AJ M k k k=y at hd ⊢
  rw [<-hd]
  grind
theorem Yg(M:Nat->Nat->Rat)(i j:Nat):∀k,M i j=BS k (λt=>NJ M t*(Kw M t i*Kw M t j))+AJ M k i j
 | 0=>by rw [BS,Rat.zero_add];rfl
 | k+1=>by
  rw [BS,Yg M i j k]
  have:=A0v M k i j
  rw [this]
  grind
def pz(x:Rat):Int:=if x=0 then 0 else 1
theorem Ht(x:Rat):pz x∈L2:=by
 unfold pz
 split<;>simp [L2]
theorem Fx{x y:Rat}(hx:0<=x)(hy:0<=y):pz (x+y)=max (pz x) (pz y):=by
 unfold pz
 by_cases h1:x=0
 .subst h1
  rw [Rat.zero_add,if_pos rfl]
  split<;>rfl
 .rw [if_neg h1, if_neg (by grind)]
  split<;>rfl
theorem Fw(x y:Rat):pz (x*y)=pz x*pz y:=by
 unfold pz
 by_cases h1:x=0
 .subst h1
  rw [Rat.zero_mul,if_pos rfl,Int.zero_mul]
 .by_cases h2:y=0
  .subst h2
   rw [Rat.mul_zero,if_pos rfl,Int.mul_zero]
  .rw [if_neg h1,if_neg h2,if_neg λh=>(A25 h).elim h1 h2]
   rfl
theorem A1Y{x:Rat}(hx:0<x):pz x=1:=by rw [pz,if_neg (by grind)]
theorem LU{x t:Rat}(ht:0<t):pz (x*t)=pz x:=by rw [Fw,A1Y ht,Int.mul_one]
theorem Lf{x:Rat}(hx:0<=x):x.num.sign=pz x:=by
 unfold pz
 split
 .rename_i h;subst h;rfl
 .exact LD hx (by assumption)
theorem Jd(x:Rat):x.num.sign∈L3:=by
 rcases Int.lt_trichotomy x.num 0 with h | h | h
 .rw [Int.sign_eq_neg_one_of_neg h];decide
 .rw [h];decide
 .rw [Int.sign_eq_one_of_pos h];decide
theorem EB{x:Rat}:0<=x.num.sign↔0<=x:=by
 rw [Int.sign_nonneg_iff,Rat.num_nonneg]
theorem nn2(a b:Rat):0<1+a*a+b*b:=by
 have:=BL a;have:=BL b;grind
theorem A3Z:∀p∈L2,∀q∈L2,∀r∈L2,∀s∈L2,max (max (max p q) r) s+max (max (max (max (max (p*q) (p*r)) (p*s)) (q*r)) (q*s)) (r*s)+max (max (max (p*q*r) (p*q*s)) (p*r*s)) (q*r*s)+p*q*r*s=p+q+r+s/\p*q*r*s<=max (max (max (p*q*r) (p*q*s)) (p*r*s)) (q*r*s)/\max (max (max (p*q*r) (p*q*s)) (p*r*s)) (q*r*s)<=max (max (max (max (max (p*q) (p*r)) (p*s)) (q*r)) (q*s)) (r*s)/\max (max (max (max (max (p*q) (p*r)) (p*s)) (q*r)) (q*s)) (r*s)<=max (max (max p q) r) s:=by decide +kernel
structure Coef(c1 c2 c3 c4:Rat)(P:Int):Prop where
 n1:0<=c1
 n2:0<=c2
 n3:0<=c3
 n4:0<=c4
 sum:pz c1+pz c2+pz c3+pz c4=P
 l4:pz c4<=pz c3
 l3:pz c3<=pz c2
 l2:pz c2<=pz c1
theorem A0W{p q r s:Rat}(hp:0<=p)(hq:0<=q)(hr:0<=r)(hss:0<=s)(u v w x y z:Rat):Coef (C1 p (p*(u*u)+q) (p*(v*v)+q*(x*x)+r) (p*(w*w)+q*(y*y)+r*(z*z)+s)) (C2 p (p*u) (p*v) (p*w) (p*(u*u)+q) (p*(u*v)+q*x) (p*(u*w)+q*y) (p*(v*v)+q*(x*x)+r) (p*(v*w)+q*(x*y)+r*z) (p*(w*w)+q*(y*y)+r*(z*z)+s)) (C3 p (p*u) (p*v) (p*w) (p*(u*u)+q) (p*(u*v)+q*x) (p*(u*w)+q*y) (p*(v*v)+q*(x*x)+r) (p*(v*w)+q*(x*y)+r*z) (p*(w*w)+q*(y*y)+r*(z*z)+s)) (D4 p (p*u) (p*v) (p*w) (p*(u*u)+q) (p*(u*v)+q*x) (p*(u*w)+q*y) (p*(v*v)+q*(x*x)+r) (p*(v*w)+q*(x*y)+r*z) (p*(w*w)+q*(y*y)+r*(z*z)+s)) (pz p+pz q+pz r+pz s):=by
 rw [A3D,A3C,A3B,A3A]
 have a1:0<1+u*u+v*v+w*w:=by have:=nn2 u v;have:=BL w;grind
 have a2:0<1+x*x+y*y:=nn2 x y
 have a3:0<1+z*z:=by have:=BL z;grind
 have b1:0<1+x*x+y*y+(u*x-v)*(u*x-v)+(u*y-w)*(u*y-w)+(v*y-w*x)*(v*y-w*x):=by
  have:=BL (u*x-v);have:=BL (u*y-w);have:=BL (v*y-w*x)
  grind
 have b2:0<1+z*z+u*u+(u*z)*(u*z)+(v*z-w)*(v*z-w):=by
  have:=BL u;have:=BL (u*z);have:=BL (v*z-w)
  grind
 have b3:0<1+u*u+v*v:=nn2 u v
 have b4:0<1+z*z+(x*z-y)*(x*z-y):=nn2 z _
 have b5:0<1+x*x:=by have:=BL x;grind
 have d1:0<1+z*z+(x*z-y)*(x*z-y)+(u*(x*z-y)-(v*z-w))*(u*(x*z-y)-(v*z-w)):=by
  have:=BL (u*(x*z-y)-(v*z-w))
  grind
 have d2:0<1+x*x+(u*x-v)*(u*x-v):=nn2 x _
 have d3:0<1+u*u:=by have:=BL u;grind
 generalize 1+u*u+v*v+w*w=A1 at *
 generalize 1+x*x+y*y+(u*x-v)*(u*x-v)+(u*y-w)*(u*y-w)+(v*y-w*x)*(v*y-w*x)=B1 at *
 generalize 1+x*x+y*y=A2 at *
 generalize 1+z*z+u*u+(u*z)*(u*z)+(v*z-w)*(v*z-w)=B2 at *
 generalize 1+z*z+(x*z-y)*(x*z-y)+(u*(x*z-y)-(v*z-w))*(u*(x*z-y)-(v*z-w))=E1 at *
 generalize 1+z*z+(x*z-y)*(x*z-y)=B4 at *
 generalize 1+z*z=A3 at *
 generalize 1+u*u+v*v=B3 at *
 generalize 1+x*x+(u*x-v)*(u*x-v)=E2 at *
 generalize 1+x*x=B5 at *
 generalize 1+u*u=E3 at *
 have m:∀{a b:Rat},0<=a->0<=b->0<=a*b:=Rat.mul_nonneg
 have w1:∀{a t:Rat},0<=a->0<t->0<=a*t:=λh h'=>Rat.mul_nonneg h (Rat.le_of_lt h')
 have k1:=w1 hp a1;have k2:=w1 hq a2;have k3:=w1 hr a3
 have f1:=m hp hq;have f2:=m hp hr;have f3:=m hp hss;have f4:=m hq hr;have f5:=m hq hss;have f6:=m hr hss
 have g1:=w1 f1 b1;have g2:=w1 f2 b2;have g3:=w1 f3 b3;have g4:=w1 f4 b4;have g5:=w1 f5 b5
 have h1:=m f1 hr;have h2:=m f1 hss;have h3:=m f2 hss;have h4:=m f4 hss
 have i1:=w1 h1 d1;have i2:=w1 h2 d2;have i3:=w1 h3 d3
 have ad:∀{a b:Rat},0<=a->0<=b->0<=a+b:=λh h'=>by grind
 have e1:pz (p*A1+q*A2+r*A3+s)=max (max (max (pz p) (pz q)) (pz r)) (pz s):=by
  rw [Fx (ad (ad k1 k2) k3) hss,Fx (ad k1 k2) k3,Fx k1 k2,LU a1,LU a2,LU a3]
 have e2:pz (p*q*B1+p*r*B2+p*s*B3+q*r*B4+q*s*B5+r*s)=max (max (max (max (max (pz p*pz q) (pz p*pz r)) (pz p*pz s)) (pz q*pz r)) (pz q*pz s)) (pz r*pz s):=by
  rw [Fx (ad (ad (ad (ad g1 g2) g3) g4) g5) f6,Fx (ad (ad (ad g1 g2) g3) g4) g5,Fx (ad (ad g1 g2) g3) g4,Fx (ad g1 g2) g3,Fx g1 g2,LU b1,LU b2,LU b3,LU b4,LU b5,Fw,Fw,Fw,Fw,Fw,Fw]
 have e3:pz (p*q*r*E1+p*q*s*E2+p*r*s*E3+q*r*s)=max (max (max (pz p*pz q*pz r) (pz p*pz q*pz s)) (pz p*pz r*pz s)) (pz q*pz r*pz s):=by
  rw [Fx (ad (ad i1 i2) i3) h4,Fx (ad i1 i2) i3,Fx i1 i2,LU d1,LU d2,LU d3]
  simp only [Fw]
 have e4:pz (p*q*r*s)=pz p*pz q*pz r*pz s:=by rw [Fw,Fw,Fw]
 obtain ⟨c1,c2,c3,c4⟩:=A3Z _ (Ht p) _ (Ht q) _ (Ht r) _ (Ht s)
 exact ⟨ad (ad (ad k1 k2) k3) hss,ad (ad (ad (ad (ad g1 g2) g3) g4) g5) f6,ad (ad (ad i1 i2) i3) h4,m h1 hss,by rw [e1,e2,e3,e4];exact c1,by rw [e4,e3];exact c2,by rw [e3,e2];exact c3,by rw [e2,e1];exact c4⟩
theorem Lz{f:Nat->Rat}{n:Nat}:∀{m:Nat},n<=m->(∀k,n<=k->f k=0)->BS m f=BS n f
  | 0, h, _ => by obtain rfl : n = 0 := by omega
                  rfl
  | m+1,h,hz=>by
    by_cases e:n=m+1
    . rw [e]
    . rw [BS,hz m (by omega),Lz (n:=n) (m:=m) (by omega) hz,Rat.add_zero]
def Eb(n:Nat)(A B:Nat->Nat->Rat)(i j:Nat):Rat:=BS n λk=>A i k*B k j
def Vd(n:Nat)(A:Nat->Nat->Rat):Rat:=BS n λi=>A i i
def Xt(i j:Nat):Rat:=if i=j then 1 else 0
mutual
def FF(n:Nat)(M:Nat->Nat->Rat):Nat->Nat->Nat->Rat
 | 0=>Xt
 | k+1=>Km (Eb n M (FF n M k)) (IY n M k)
def IY(n:Nat)(M:Nat->Nat->Rat)(k:Nat):Rat:=-(Vd n (Eb n M (FF n M k))/(((k+1:Nat):Int):Rat))
end
def EE(n:Nat)(M:Nat->Nat->Rat)(k:Nat):Rat:=if k<n then IY n M (n-1-k) else 1
def OutZ(n:Nat)(M:Nat->Nat->Rat):Prop:=∀i j,n<=i\/n<=j->M i j=0
section
variable {n:Nat} {M:Nat->Nat->Rat} (hn:n<=4) (hz:OutZ n M)
include hn hz
theorem Uv(B:Nat->Nat->Rat):Eb n M B=Eb 4 M B:=by
 funext i j
 exact (Lz hn λk hk=>by rw [hz i k (.inr hk),Rat.zero_mul]).symm
theorem XB(B:Nat->Nat->Rat):Vd n (Eb n M B)=Vd 4 (Eb 4 M B):=by
 rw [Uv hn hz]
 exact (Lz hn λk hk=>Ex λj _=>by rw [hz k j (.inl hk),Rat.zero_mul]).symm
theorem IJ:∀k,FF n M k=FF 4 M k/\IY n M k=IY 4 M k
 | 0=>by
  have h:FF n M 0=FF 4 M 0:=by rw [FF,FF]
  refine ⟨h,?_⟩
  rw [IY,IY,h,XB hn hz]
 | k+1=>by
  obtain ⟨h1,h2⟩:=IJ k
  have h:FF n M (k+1)=FF 4 M (k+1):=by rw [FF,FF,h1,h2,Uv hn hz]
  refine ⟨h,?_⟩
  rw [IY,IY,h,XB hn hz]
end
theorem Id(A B:Nat->Nat->Rat):Eb 4 A B=Mb A B:=by
 funext i j
 simp only [Eb,Mb,BS,Rat.zero_add]
theorem OG(A:Nat->Nat->Rat):Vd 4 A=tr4 A:=by simp only [Vd,tr4,BS,Rat.zero_add]
abbrev Nc(M:Nat->Nat->Rat):Rat:=C1 (M 0 0) (M 1 1) (M 2 2) (M 3 3)
abbrev Qe(M:Nat->Nat->Rat):Rat:=C2 (M 0 0) (M 0 1) (M 0 2) (M 0 3) (M 1 1) (M 1 2) (M 1 3) (M 2 2) (M 2 3) (M 3 3)
abbrev SW(M:Nat->Nat->Rat):Rat:=C3 (M 0 0) (M 0 1) (M 0 2) (M 0 3) (M 1 1) (M 1 2) (M 1 3) (M 2 2) (M 2 3) (M 3 3)
abbrev Xv(M:Nat->Nat->Rat):Rat:=D4 (M 0 0) (M 0 1) (M 0 2) (M 0 3) (M 1 1) (M 1 2) (M 1 3) (M 2 2) (M 2 3) (M 3 3)
theorem OX{M:Nat->Nat->Rat}(hz:OutZ 4 M):Eb 4 M Xt=M:=by
 funext i j
 by_cases hj:j<4
 .rw [Eb,Ed hj λk _ hk=>by rw [Xt,if_neg hk,Rat.mul_zero],Xt,if_pos rfl,Rat.mul_one]
 .rw [hz i j (.inr (by omega))]
  exact Ex λk hk=>by rw [Xt,if_neg (by omega),Rat.mul_zero]
theorem SP{M:Nat->Nat->Rat}(hz:OutZ 4 M):IY 4 M 0 = -Nc M:=by
 rw [IY,FF,OX hz,OG,tr4,Nc,C1,show (((0+1:Nat):Int):Rat)=1 from rfl]
 grind
section
variable {M:Nat->Nat->Rat} (hs:∀i j,M i j=M j i) (hz:OutZ 4 M)
include hs hz
theorem YU:IY 4 M 1=Qe M:=by
 rw [IY,FF,FF,SP hz,OX hz,OG,Id,fl2 hs,show (((1+1:Nat):Int):Rat)=2 from rfl]
 grind
theorem A2d:IY 4 M 2 = -SW M:=by
 rw [IY,FF,YU hs hz,FF,FF,SP hz,OX hz,OG,Id,Id,fl3 hs,show (((2+1:Nat):Int):Rat)=3 from rfl]
 grind
theorem A3X:IY 4 M 3=Xv M:=by
 rw [IY,FF,A2d hs hz,FF,YU hs hz,FF,FF,SP hz,OX hz,OG,Id,Id,Id,fl4 hs,show (((3+1:Nat):Int):Rat)=4 from rfl]
 grind
end
def IN(M:Nat->Nat->Rat):Nat->Nat
 | 0=>0
 | k+1=>if AJ M k k k=0 then IN M k else IN M k+1
theorem Mi{M:Nat->Nat->Rat}{n:Nat}(hz:OutZ n M):∀k,OutZ n (AJ M k)
 | 0=>hz
 | k+1=>λi j h=>by
  have ih:=Mi hz k
  rw [AJ]
  split
  .exact ih i j h
  .rw [Gq,ih i j h]
   rcases h with h | h
   .rw [ih k i (.inr h),Rat.div_def,Rat.zero_mul,Rat.zero_mul]
    grind
   .rw [ih k j (.inr h),Rat.mul_zero]
    grind
theorem A0C{M:Nat->Nat->Rat}{n:Nat}(hz:OutZ n M)(h:∀k,k<n->DF M n k)(k:Nat):DF M 4 k:=by
 have ho:=Mi hz k
 by_cases hk:k<n
 .obtain ⟨h1,h2⟩:=h k hk
  refine ⟨h1,λe j _=>?_⟩
  by_cases hj:j<n
  .exact h2 e j hj
  .exact ho k j (.inr (by omega))
 .exact ⟨by rw [ho k k (.inl (by omega))];exact Rat.le_refl,λ_ j _=>ho k j (.inl (by omega))⟩
theorem UL{M:Nat->Nat->Rat}{n:Nat}(hz:OutZ n M):∀{m:Nat},n<=m->IN M m=IN M n
  | 0, h => by obtain rfl : n = 0 := by omega
               rfl
  | m+1,h=>by
    by_cases e:n=m+1
    . rw [e]
    . rw [IN,if_pos (Mi hz m m m (.inl (by omega))),UL hz (by omega)]
theorem Zg(M:Nat->Nat->Rat):(IN M 4:Int)=pz (NJ M 0)+pz (NJ M 1)+pz (NJ M 2)+pz (NJ M 3):=by
 have h:∀k,(IN M (k+1):Int)=IN M k+pz (NJ M k):=λk=>by
  rw [IN,NJ,pz]
  split
  .omega
  .omega
 rw [h 3,h 2,h 1,h 0]
 simp [IN]
theorem Oc{M:Nat->Nat->Rat}(hs:∀i j,M i j=M j i)(hok:∀k,k<4->DF M 4 k):Coef (Nc M) (Qe M) (SW M) (Xv M) (IN M 4):=by
 have hM:∀i j,i<4->j<4->M i j=NJ M 0*(Kw M 0 i*Kw M 0 j)+NJ M 1*(Kw M 1 i*Kw M 1 j)+NJ M 2*(Kw M 2 i*Kw M 2 j)+NJ M 3*(Kw M 3 i*Kw M 3 j):=λi j hi hj=>by
  have:=Yg M i j 4
  rw [Lj hs hok 4 (Nat.le_refl 4) i hi j hj] at this
  simp only [BS,Rat.zero_add,Rat.add_zero] at this
  exact this
 have hzr:∀t i,t<4->i<t->Kw M t i=0:=λt i ht hi=>by
  rw [Kw,Fm hs t t i,Lj hs hok t (by omega) i hi t ht,Rat.div_def,Rat.zero_mul]
 have hone:∀t y,NJ M t*(Kw M t t*y)=NJ M t*y:=λt y=>by
  by_cases h0:NJ M t=0
  .rw [h0,Rat.zero_mul,Rat.zero_mul]
  .have h0':AJ M t t t≠0:=h0
   rw [Kw,Rat.div_def,Rat.mul_inv_cancel _ h0',Rat.one_mul]
 have z10:=hzr 1 0 (by omega) (by omega)
 have z20:=hzr 2 0 (by omega) (by omega)
 have z21:=hzr 2 1 (by omega) (by omega)
 have z30:=hzr 3 0 (by omega) (by omega)
 have z31:=hzr 3 1 (by omega) (by omega)
 have z32:=hzr 3 2 (by omega) (by omega)
 have o0:=hone 0;have o1:=hone 1;have o2:=hone 2;have o3:=hone 3
 have q:∀t,NJ M t*(Kw M t t*Kw M t t)=NJ M t:=λt=>by
  rw [hone]
  have:=hone t 1
  rwa [Rat.mul_one,Rat.mul_one] at this
 have q0:=q 0;have q1:=q 1;have q2:=q 2;have q3:=q 3
 have e00:=hM 0 0 (by omega) (by omega)
 have e01:=hM 0 1 (by omega) (by omega)
 have e02:=hM 0 2 (by omega) (by omega)
 have e03:=hM 0 3 (by omega) (by omega)
 have e11:=hM 1 1 (by omega) (by omega)
 have e12:=hM 1 2 (by omega) (by omega)
 have e13:=hM 1 3 (by omega) (by omega)
 have e22:=hM 2 2 (by omega) (by omega)
 have e23:=hM 2 3 (by omega) (by omega)
 have e33:=hM 3 3 (by omega) (by omega)
 rw [z10,z20,z30,q0,Rat.mul_zero,Rat.mul_zero,Rat.mul_zero,Rat.mul_zero,Rat.add_zero,Rat.add_zero,Rat.add_zero] at e00
 rw [z10,z20,z30,o0,Rat.zero_mul,Rat.zero_mul,Rat.zero_mul,Rat.mul_zero,Rat.mul_zero,Rat.mul_zero,Rat.add_zero,Rat.add_zero,Rat.add_zero] at e01 e02 e03
 rw [z21,z31,q1,Rat.mul_zero,Rat.mul_zero,Rat.mul_zero,Rat.add_zero,Rat.add_zero] at e11
 rw [z21,z31,o1,Rat.zero_mul,Rat.zero_mul,Rat.mul_zero,Rat.mul_zero,Rat.add_zero,Rat.add_zero] at e12 e13
 rw [z32,q2,Rat.mul_zero,Rat.mul_zero,Rat.add_zero] at e22
 rw [z32,o2,Rat.zero_mul,Rat.mul_zero,Rat.add_zero] at e23
 rw [q3] at e33
 have hd:∀t,t<4->0<=NJ M t:=λt ht=>(hok t ht).1
 have:=A0W (hd 0 (by omega)) (hd 1 (by omega)) (hd 2 (by omega)) (hd 3 (by omega)) (Kw M 0 1) (Kw M 0 2) (Kw M 0 3) (Kw M 1 2) (Kw M 1 3) (Kw M 2 3)
 rw [<-Zg,<-e33,<-e23,<-e22,<-e13,<-e12,<-e11,<-e03,<-e02,<-e01,<-e00] at this
 exact this
theorem A0t{M:Nat->Nat->Rat}(hs:∀i j,M i j=M j i)(h1:0<=Nc M)(h2:0<=Qe M)(h3:0<=SW M)(h4:0<=Xv M)(x:Nat->Rat):0<=qF M 4 x:=by
 have:=A0P h1 h2 h3 h4 (x 0) (x 1) (x 2) (x 3)
 unfold F4 at this
 simp only [qF,HG,BS,Rat.zero_add]
 rw [hs 1 0,hs 2 0,hs 3 0,hs 2 1,hs 3 1,hs 3 2]
 grind
theorem A0B{M:Nat->Nat->Rat}(hz:OutZ 1 M):Qe M=0:=by
 have z:∀i j,1<=i\/1<=j->M i j=0:=hz
 rw [Qe,C2,z 0 1 (by omega),z 1 1 (by omega),z 0 2 (by omega),z 0 3 (by omega),z 2 2 (by omega),z 1 2 (by omega),z 1 3 (by omega),z 3 3 (by omega),z 2 3 (by omega)]
 grind
theorem Vy{M:Nat->Nat->Rat}(hz:OutZ 2 M):SW M=0:=by
 have z:∀i j,2<=i\/2<=j->M i j=0:=hz
 rw [SW,C3,D3,D3,D3,D3,z 0 2 (by omega),z 0 3 (by omega),z 2 2 (by omega),z 1 2 (by omega),z 1 3 (by omega),z 3 3 (by omega),z 2 3 (by omega)]
 grind
theorem QK{M:Nat->Nat->Rat}(hz:OutZ 3 M):Xv M=0:=by
 have z:∀i j,3<=i\/3<=j->M i j=0:=hz
 rw [Xv,D4,Q3,z 0 3 (by omega),z 1 3 (by omega),z 3 3 (by omega),z 2 3 (by omega)]
 grind
theorem OutZ.mono{M:Nat->Nat->Rat}{n m:Nat}(h:OutZ n M)(hm:n<=m):OutZ m M:=λi j hij=>h i j (by omega)
theorem A3h{M:Nat->Nat->Rat}(hz:OutZ 0 M):Nc M=0:=by
 have z:∀i j,M i j=0:=λi j=>hz i j (by omega)
 rw [Nc,C1,z,z,z,z,Rat.add_zero,Rat.add_zero,Rat.add_zero]
def Jg(p:Nat->Rat)(odd:Bool)(n:Nat):List Int:=(List.range n).map λk=>if odd=true/\k%2=1 then -(p k).num.sign else (p k).num.sign
theorem HZ(x:Rat):(-x).num.sign = -x.num.sign:=by rw [Rat.neg_num,Int.sign_neg]
theorem A3a{M:Nat->Nat->Rat}(hs:∀i j,M i j=M j i)(hz:OutZ 1 M):Jg (EE 1 M) true 2=[-(Nc M).num.sign,-1]/\Jg (EE 1 M) false 2=[-(Nc M).num.sign,1]:=by
 have e0:EE 1 M 0 = -Nc M:=by rw [EE,if_pos (by omega),(IJ (by omega) hz _).2,SP (hz.mono (by omega))]
 have e1:EE 1 M 1=1:=by rw [EE,if_neg (by omega)]
 constructor<;>simp [Jg,List.range_succ,e0,e1,HZ]
theorem A39{M:Nat->Nat->Rat}(hs:∀i j,M i j=M j i)(hz:OutZ 2 M):Jg (EE 2 M) true 3=[(Qe M).num.sign,(Nc M).num.sign,1]/\Jg (EE 2 M) false 3=[(Qe M).num.sign,-(Nc M).num.sign,1]:=by
 have e0:EE 2 M 0=Qe M:=by rw [EE,if_pos (by omega),(IJ (by omega) hz _).2,YU hs (hz.mono (by omega))]
 have e1:EE 2 M 1 = -Nc M:=by rw [EE,if_pos (by omega),(IJ (by omega) hz _).2,SP (hz.mono (by omega))]
 have e2:EE 2 M 2=1:=by rw [EE,if_neg (by omega)]
 constructor<;>simp [Jg,List.range_succ,e0,e1,e2,HZ]
theorem A38{M:Nat->Nat->Rat}(hs:∀i j,M i j=M j i)(hz:OutZ 3 M):Jg (EE 3 M) true 4=[-(SW M).num.sign,-(Qe M).num.sign,-(Nc M).num.sign,-1]/\Jg (EE 3 M) false 4=[-(SW M).num.sign,(Qe M).num.sign,-(Nc M).num.sign,1]:=by
 have e0:EE 3 M 0 = -SW M:=by rw [EE,if_pos (by omega),(IJ (by omega) hz _).2,A2d hs (hz.mono (by omega))]
 have e1:EE 3 M 1=Qe M:=by rw [EE,if_pos (by omega),(IJ (by omega) hz _).2,YU hs (hz.mono (by omega))]
 have e2:EE 3 M 2 = -Nc M:=by rw [EE,if_pos (by omega),(IJ (by omega) hz _).2,SP (hz.mono (by omega))]
 have e3:EE 3 M 3=1:=by rw [EE,if_neg (by omega)]
 constructor<;>simp [Jg,List.range_succ,e0,e1,e2,e3,HZ]
theorem A37{M:Nat->Nat->Rat}(hs:∀i j,M i j=M j i)(hz:OutZ 4 M):Jg (EE 4 M) true 5=[(Xv M).num.sign,(SW M).num.sign,(Qe M).num.sign,(Nc M).num.sign,1]/\Jg (EE 4 M) false 5=[(Xv M).num.sign,-(SW M).num.sign,(Qe M).num.sign,-(Nc M).num.sign,1]:=by
 have e0:EE 4 M 0=Xv M:=by rw [EE,if_pos (by omega),A3X hs hz]
 have e1:EE 4 M 1 = -SW M:=by rw [EE,if_pos (by omega),A2d hs hz]
 have e2:EE 4 M 2=Qe M:=by rw [EE,if_pos (by omega),YU hs hz]
 have e3:EE 4 M 3 = -Nc M:=by rw [EE,if_pos (by omega),SP hz]
 have e4:EE 4 M 4=1:=by rw [EE,if_neg (by omega)]
 constructor<;>simp [Jg,List.range_succ,e0,e1,e2,e3,e4,HZ]
theorem UK{M:Nat->Nat->Rat}{n:Nat}(hn:n<=4)(hs:∀i j,M i j=M j i)(hz:OutZ n M):chg (Jg (EE n M) true (n+1))=0↔0<=Nc M/\0<=Qe M/\0<=SW M/\0<=Xv M:=by
 have m1:=Jd (Nc M);have m2:=Jd (Qe M);have m3:=Jd (SW M);have m4:=Jd (Xv M)
 have r:(0:Rat)<=0:=Rat.le_refl
 match n,hn with
 | 0,_=>
  rw [A3h hz,A0B (hz.mono (by omega)),Vy (hz.mono (by omega)),QK (hz.mono (by omega))]
  have:Jg (EE 0 M) true (0+1)=[1]:=by simp [Jg,List.range_succ,EE]
  rw [this]
  exact ⟨λ_=>⟨r,r,r,r⟩,λ_=>by decide⟩
 | 1,_=>
  rw [(A3a hs hz).1,A2q _ m1,EB,A0B hz,Vy (hz.mono (by omega)),QK (hz.mono (by omega))]
  exact ⟨λh=>⟨h,r,r,r⟩,λh=>h.1⟩
 | 2,_=>
  rw [(A39 hs hz).1,A2p _ m1 _ m2,EB,EB,Vy hz,QK (hz.mono (by omega))]
  exact ⟨λh=>⟨h.1,h.2,r,r⟩,λh=>⟨h.1,h.2.1⟩⟩
 | 3,_=>
  rw [(A38 hs hz).1,A2o _ m1 _ m2 _ m3,EB,EB,EB,QK hz]
  exact ⟨λh=>⟨h.1,h.2.1,h.2.2,r⟩,λh=>⟨h.1,h.2.1,h.2.2.1⟩⟩
 | 4,_=>rw [(A37 hs hz).1,A2n _ m1 _ m2 _ m3 _ m4,EB,EB,EB,EB]
theorem Zf{M:Nat->Nat->Rat}{n:Nat}{P:Int}(hn:n<=4)(hs:∀i j,M i j=M j i)(hz:OutZ n M)(h:Coef (Nc M) (Qe M) (SW M) (Xv M) P):(chg (Jg (EE n M) false (n+1)):Int)=P:=by
 have m1:=Ht (Nc M);have m2:=Ht (Qe M);have m3:=Ht (SW M);have m4:=Ht (Xv M)
 have e1:=Lf h.n1;have e2:=Lf h.n2;have e3:=Lf h.n3;have e4:=Lf h.n4
 have hsum:=h.sum
 have z0:pz 0=0:=if_pos rfl
 match n,hn with
 | 0,_=>
  rw [A3h hz,A0B (hz.mono (by omega)),Vy (hz.mono (by omega)),QK (hz.mono (by omega)),z0] at hsum
  have:Jg (EE 0 M) false (0+1)=[1]:=by simp [Jg,List.range_succ,EE]
  rw [this,<-hsum]
  decide
 | 1,_=>
  rw [A0B hz,Vy (hz.mono (by omega)),QK (hz.mono (by omega)),z0] at hsum
  rw [(A3a hs hz).2,e1,A2m _ m1]
  omega
 | 2,_=>
  rw [Vy hz,QK (hz.mono (by omega)),z0] at hsum
  rw [(A39 hs hz).2,e1,e2,A2l _ m1 _ m2 h.l2]
  omega
 | 3,_=>
  rw [QK hz,z0] at hsum
  rw [(A38 hs hz).2,e1,e2,e3,A2k _ m1 _ m2 _ m3 h.l3 h.l2]
  omega
 | 4,_=>rw [(A37 hs hz).2,e1,e2,e3,e4,A2j _ m1 _ m2 _ m3 _ m4 h.l4 h.l3 h.l2,hsum]
theorem A1V{M:Nat->Nat->Rat}{n:Nat}(hn:n<=4)(hs:∀i j,M i j=M j i)(hz:OutZ n M)(h:chg (Jg (EE n M) true (n+1))=0):(∀k,k<n->DF M n k)/\chg (Jg (EE n M) false (n+1))=IN M n:=by
 obtain ⟨h1,h2,h3,h4⟩:=(UK hn hs hz).1 h
 have hok:∀k,k<4->DF M 4 k:=λk hk=>A3c hs (A0t hs h1 h2 h3 h4) k hk
 refine ⟨λk hk=>?_,?_⟩
 .obtain ⟨a1, a2⟩:=hok k (by omega)
  exact ⟨a1,λe j hj=>a2 e j (by omega)⟩
 .have:=Zf hn hs hz (Oc hs hok)
  rw [<-UL hz hn]
  omega
theorem A0e{M:Nat->Nat->Rat}{n:Nat}(hn:n<=4)(hs:∀i j,M i j=M j i)(hz:OutZ n M)(h:chg (Jg (EE n M) true (n+1))≠0):¬∀k,k<n->DF M n k:=λhok=>by
 have:=Oc hs λk _=>A0C hz hok k
 exact h ((UK hn hs hz).2 ⟨this.n1,this.n2,this.n3,this.n4⟩)
theorem A26{i r:Nat}{c:Int}(hi:i<r)(hr:r<=4)(h0:0<=c)(hc:c<=4):-9223372036854775808<=(i:Int)*c/\(i:Int)*c<=9223372036854775807:=by
 have h1:0<=(i:Int)*c:=Int.mul_nonneg (by omega) h0
 have h2:(i:Int)*c<=4*4:=Int.mul_le_mul (by omega) hc h0 (by omega)
 omega
theorem YI(T:Nat)(V:List Int)(hV:Mr8 V)(a:Nat)(ha:a<256):Con Tryz.prog 27 [.d (BF [VG T V]),.d (ex (.int .u8 (a:Nat))),.d (ex (.int .u8 (a:Nat)))] [] [] (λr hp'=>∃b c:Nat->Nat,(∀i,i<a%5->a%5<=c i/\c i<=9223372036854775807)/\r = .own 2/\hp'=[.dead,.var 24 ([VG T V].map .d),.row 62 1 (CU (a%5) (a%5) b c),.obj (Bj (DC (a%5) (a%5) b (Jt V (a%5))))]):=by
 have hr:a%5<=4:=by omega
 refine FL Tryz.func27 rfl (AG Tryz.func27 (by kernel_rfl) (by kernel_rfl)) rfl λs0=>?_
 rw [Tryz.ntmps27]
 apply Y1;refine Bx ?_;refine Wa<|Y0<|Y1 ?_;refine EA (Ad rfl) (Ad rfl) rfl rfl rfl rfl rfl ?_;refine Wa<|Y0<|Aa<|Y1<|Wa<|Y0<|AWp.block ?_
 refine AQ (λmz σ=>∃k,k<=a%5/\mz=a%5-k/\∃b c,(∀i,i<k->a%5<=c i/\c i<=9223372036854775807)/\σ=⟨[(1,.d (ex (.int .u8 (a:Nat)))),(2,.d (ex (.int .u8 (a:Nat)))),(3,.ptr 1 0),(7,.own 2),(8,.d (ex (.int .i64 (k:Nat))))],[.pin [],.var 24 ([VG T V].map .d),.row 62 1 (CU k (a%5) b c),.obj (Bj (DC k (a%5) b (Jt V (a%5))))]⟩) ?le ⟨0,by omega,rfl,λ_=>0,λ_=>0,λi hi=>absurd hi (Nat.not_lt_zero i),rfl⟩ ?round
 case le=>
  refine FO (OE rfl) ?_
  exact Ak (by exact Yd<|Yd<|Yp<|FrLe.cons rfl (AVle.own rfl)<|Yd<|FrLe.nil) (by exact HpLe.cons (BA rfl)<|Yv<|Yr<|HpLe.cons (OwLe.obj rfl)<|HpLe.nil)
 case round=>
  rintro mz _ ⟨k,hk,rfl,b,c,hbc,rfl⟩
  by_cases hlt:k<a%5
  .have hm:=A26 (c:=(a:Int)%5) hlt hr (by omega) (by omega)
   have hkc:k*(a%5)<=4*4:=Nat.mul_le_mul (by omega) (by omega)
   have hrl:(CU k (a%5) b c).length=k:=by simp [CU]
   refine Aa<|Y1<|Wm<|Wm ?_;refine Wq Co ?_;refine Wq BD ?_;refine Wq Ai ?_;refine Y0<|Ct<|Ys<|Aa<|AWp.block<|AWp.region<|Wm ?_;refine Wq Ar ?_;refine Wm<|Wm ?_;refine Wq Co ?_;refine Wq BD ?_;refine Wq (A2F (ao rfl) (ao rfl) hm.1 hm.2) ?_;refine Wm ?_;refine Wq Co ?_;refine Wq BD ?_
   refine Kk [] [] (A0l T V hV (k*(a%5)) (a%5) (by omega) (by omega) (by omega)) ?_
   rintro _ _ ⟨g,cg,hc1,hc2,rfl,rfl⟩
   refine Kr ?_
   (refine Cr rfl rfl ?_;(refine Cx (Ad rfl) (Ad rfl) rfl rfl rfl rfl rfl ?_;(repeat ((first | refine ⟨_,AO (ao rfl),?_⟩ | refine ⟨_,Po rfl,?_⟩);refine ⟨_,rfl,?_⟩));refine ⟨_,rfl,?_⟩));(refine Qc (r2:=[[sX g (a%5) cg]]) (ao rfl) rfl rfl (Ad rfl) (Ad rfl) rfl rfl (by rw [hrl];simp;omega) (by rw [hrl];simp;omega) rfl (by first | ((repeat (first | exact PlainHp.nil | refine PlainHp.var ?_ | refine CW ?_ | refine PlainHp.dead ?_ | refine PlainHp.obj ?_ | refine PlainHp.pin rfl ?_ | refine CE rfl ?_));done) | fail) rfl ?_);refine Wa<|AWl.nil<|Ah<|Yn<|AWp.region<|Wm ?_;refine Wq AH ?_;refine Wa<|AWl.nil ?_
   refine ALoop.next (a%5-(k+1)) (by omega) ⟨k+1,by omega,rfl,DS b k g,DS c k cg,λi hi=>?_,rfl⟩ ?_
   .unfold DS
    split
    .exact ⟨hc1,hc2⟩
    .exact hbc i (by omega)
   .refine FO (Il 3 7 (by decide) rfl rfl rfl rfl) ?_
    exact Ak (by exact Yd<|Yd<|Yp<|FrLe.cons rfl (AVle.own rfl)<|Yd<|FrLe.nil) (by refine HpLe.cons (BA rfl) ?_;apply Yv;refine HpLe.cons (Cg LO) ?_;refine HpLe.cons (OwLe.obj (congrArg Bj (LN (M:=Jt V (a%5))))) ?_;exact HpLe.nil)
  .obtain rfl:k=a%5:=by omega
   refine Aa<|Y1<|Wm<|Wm ?_;refine Wq Co ?_;refine Wq BD ?_;refine Wq Aj ?_;refine Y0<|Cf<|AP<|AA<|AF<|AB<|Yn<|Y1<|Wm<|Wa<|Y0<|At ?_
   refine Et (RetsA.one rfl) rfl ?_ rfl
   exact ⟨b,c,hbc,rfl,rfl⟩
theorem WA(M:Nat->Nat->Rat):GV M 0 0=M:=by
 funext i j
 rw [GV,if_neg (by omega)]
theorem WB(M:Nat->Nat->Rat){k q:Nat}(h:q<k):Sh (GV M k q) k q (GV M k q q k)=GV M k (q+1):=by
 have e:GV M k q q k=M q k:=by rw [GV,if_pos (by omega),IP,if_neg (by omega)]
 rw [e]
 funext i j
 unfold Sh DS
 by_cases hi:i=k
 .subst hi
  rw [if_pos rfl]
  by_cases hj:j=q
  .subst hj
   rw [if_pos rfl,GV,if_pos (by omega),IP,if_pos h]
  .rw [if_neg hj]
   unfold GV
   by_cases hc:j<q
   .rw [if_pos (by omega),if_pos (by omega)]
   .rw [if_neg (by omega),if_neg (by omega)]
 .rw [if_neg hi]
  unfold GV
  by_cases hc:i<k
  .rw [if_pos (by omega),if_pos (by omega)]
  .rw [if_neg (by omega),if_neg (by omega)]
theorem Zm(M:Nat->Nat->Rat)(k:Nat):GV M k k=GV M (k+1) 0:=by
 funext i j
 unfold GV
 by_cases h:i<k\/(i=k/\j<k)
 .rw [if_pos h,if_pos (by omega)]
 .rw [if_neg h]
  by_cases hc:i<k+1
  .rw [if_pos (.inl hc),IP,if_neg (by omega)]
  .rw [if_neg (by omega)]
theorem A0Y(T:Nat)(V:List Int)(hV:Mr8 V)(a:Nat)(ha:a<256):Abs Tryz.prog 5 [BF [VG T V],ex (.int .u8 (a:Nat))] (BY (a%5) (a%5) (IP (Jt V (a%5)))):=by
 have hn:a%5<=4:=by omega
 refine Ab Tryz.func5 λs0=>?_
 rw [Tryz.ntmps5]
 apply Y1;refine Bx ?_;refine Wa<|Y0<|Y1 ?_;refine Wq Ar ?_;refine Wm<|Wm ?_
 refine Kk [] [] (YI T V hV a ha) ?_
 rintro _ _ ⟨b,c,hbc,rfl,rfl⟩
 refine Kr ?_
 obtain ⟨n,hna⟩:∃n,a%5=n:=⟨_,rfl⟩
 rw [hna] at hbc hn ⊢
 generalize Jt V n=M
 refine Wa<|Y0<|Aa<|Y1<|Wa<|Y0<|AWp.block ?_
 refine AQ (λmz σ=>∃k,k<=n/\mz=n-k/\σ=⟨[(5,.own 3),(6,.d (ex (.int .i64 (k:Nat))))],[.dead,.dead,.dead,.row 62 1 (CU n n b c),.obj (Bj (DC n n b (GV M k 0)))]⟩) ?le ⟨0,by omega,rfl,rfl⟩ ?round
 case le=>exact Ak (by exact FrLe.cons rfl (AVle.own rfl)<|Yd<|FrLe.nil) (by exact HpLe.cons (OwLe.dead)<|HpLe.cons (OwLe.dead)<|HpLe.cons (OwLe.dead)<|Yr<|HpLe.cons (OwLe.obj (by rw [WA]))<|HpLe.nil)
 case round=>
  rintro mz _ ⟨k,hk,rfl,rfl⟩
  by_cases hlt:k<n
  .refine Aa<|Y1<|Wm<|Wm ?_;refine Wq (Bi rfl (Ad rfl)) ?_;refine Wq Ai ?_;refine Y0<|Ct<|Ys<|Aa<|AWp.block<|Y1<|Wa<|Y0<|AWp.block ?_
   refine AQ (λmz σ=>∃q,q<=k/\mz=k-q/\σ=⟨[(5,.own 3),(6,.d (ex (.int .i64 (k:Nat)))),(7,.d (ex (.int .i64 (q:Nat))))],[.dead,.dead,.dead,.row 62 1 (CU n n b c),.obj (Bj (DC n n b (GV M k q)))]⟩) ?leq ⟨0,by omega,rfl,rfl⟩ ?roundq
   case leq=>exact Ak (by exact FrLe.cons rfl (AVle.own rfl)<|Yd<|Yd<|FrLe.nil) (by exact HpLe.cons (OwLe.dead)<|HpLe.cons (OwLe.dead)<|HpLe.cons (OwLe.dead)<|Yr<|HpLe.cons (OwLe.obj rfl)<|HpLe.nil)
   case roundq=>
    rintro mz _ ⟨q,hq,rfl,rfl⟩
    by_cases hltq:q<k
    .have hqn:q<n:=by omega
     refine Aa<|Y1<|Wm<|Wm ?_;refine Wq Ai ?_;refine Y0<|Ct<|Ys<|Aa<|AWp.block ?_
     refine Dr [[],[],[(23,0),(24,1)],[(25,2)],[],[],[],[(28,5),(29,6)],[(30,7)],[],[(31,8),(32,9)],[(33,10)],[(26,3),(27,4)]] [[],[],[0,1],[0,1,2],[],[],[],[5,6],[5,6,7],[],[5,6,7,8,9],[5,6,7,8,9,10],[0,1,2,3,4,5,6,7,8,9,10,11]] ?_
     refine Xq Ae ?_;refine Xq Ae ?_;refine Xq (AR (k:=k) rfl (ah rfl) (Ad rfl) (Ad rfl) rfl hlt) ?_;refine Xq BG ?_;refine Xq Ae ?_;refine Xq Ae ?_;refine Xq Ae ?_;refine Xq (AR (k:=q) rfl (ah rfl) (Ad rfl) (Ad rfl) rfl hqn) ?_;refine Xq BG ?_;refine Xq Ae ?_;refine Xq (BE (k:=k) (ah rfl) (ah rfl) (Ad rfl) (Ad rfl) hlt) ?_;refine Xq (Du (e:=⟨b q,42,Bg (GV M k q q) n⟩) 4 q (ah rfl) rfl (Qv hqn) (Ad rfl) rfl (BH hlt)) ?_;refine Xq (BE (k:=q) (ah rfl) (ah rfl) (Ad rfl) (Ad rfl) hqn) ?_;refine ⟨_,rfl,?_⟩
     refine EH (e:=⟨b k,42,Bg (GV M k q k) n⟩) 4 k (ao rfl) (ao rfl) rfl (Qv hlt) (Ad rfl) rfl (DH hqn) rfl ?_;refine AWl.nil<|Ah<|Yn<|AWp.region<|Wm ?_;refine Wq AH ?_;refine Wa<|AWl.nil ?_
     refine ALoop.next (k-(q+1)) (by omega) ⟨q+1,by omega,rfl,rfl⟩ ?_
     exact Ak (by exact FrLe.cons rfl (AVle.own rfl)<|Yd<|Yd<|FrLe.nil) (by exact HpLe.cons (OwLe.dead)<|HpLe.cons (OwLe.dead)<|HpLe.cons (OwLe.dead)<|Yr<|HpLe.cons (OwLe.obj (by rw [Vl hlt,WB M hltq]))<|HpLe.nil)
    .obtain rfl:k=q:=by omega
     refine Aa<|Y1<|Wm<|Wm ?_;refine Wq Aj ?_;refine Y0<|Cf<|AP<|AA<|AF<|AB<|Ah<|Yn<|AWp.region<|Wm ?_;refine Wq AH ?_;refine Wa<|AWl.nil ?_
     refine ALoop.next (n-(k+1)) (by omega) ⟨k+1,by omega,rfl,rfl⟩ ?_
     exact Ak (by exact FrLe.cons rfl (AVle.own rfl)<|Yd<|FrLe.nil) (by exact HpLe.cons (OwLe.dead)<|HpLe.cons (OwLe.dead)<|HpLe.cons (OwLe.dead)<|Yr<|HpLe.cons (OwLe.obj (by rw [Zm]))<|HpLe.nil)
  .obtain rfl:n=k:=by omega
   refine GZ (He (R:=BY n n (IP M)) 4 5 rfl rfl rfl rfl λs hs v hv=>Qq (M:=IP M) (λe he=>hs e ?_) hbc hv) ?_
   .rwa [Qu (M:=GV M n 0) (M':=IP M) λi hi j hj=>by rw [GV,if_pos (by omega)]]
   .refine Aa<|Y1<|Wm<|Wm ?_;refine Wq (Bi rfl (Ad rfl)) ?_;refine Wq Aj ?_;refine Y0<|Cf<|AP<|AA<|AF<|AB<|Yn<|Y1<|Wm<|Wa<|Y0<|At ?_
    exact Yf
theorem Ml(p:Nat->Prop):∀n,(∀k,k<n->p k)\/∃z,z<n/\(∀k,k<z->p k)/\¬p z
 | 0=>.inl λk h=>absurd h (Nat.not_lt_zero k)
 | n+1=>by
  rcases Ml p n with h | ⟨z,h1,h2,h3⟩
  .rcases Classical.em (p n) with hn | hn
   .refine .inl λk hk=>?_
    rcases Nat.lt_or_ge k n with h' | h'
    .exact h k h'
    .obtain rfl:k=n:=by omega
     exact hn
   .exact .inr ⟨n,by omega,h,hn⟩
  .exact .inr ⟨z,by omega,h2,h3⟩
abbrev xL:List Tm:=[⟨1,Gm 0⟩]
abbrev yL:List Tm:=[⟨1,Gm 1⟩]
abbrev OS:List Tm:=Dm (1:Int)
abbrev FQ:List Tm:=Dm (-1:Int)
abbrev A1U:List Sq:=[⟨(2:Int),FA⟩,⟨(-1:Int),yL⟩]
abbrev A1O:List Tm:=A1Z (Eu (2:Int) (Fz FA FA)) (Fz yL yL)
abbrev UZ:List Tm:=CV (Fz xL xL) OS
theorem OF:PB xL 1 1 1:=Yt Hm
theorem Xw:PB yL 1 1 1:=Yt Hm
theorem Jq:PB OS 1 1 1:=Ob (Dj (by omega) (by omega)) (by omega)
theorem OV:PB FQ 1 1 1:=Ob (Dj (by omega) (by omega)) (by omega)
theorem Jn:PB FA 2 3 1:=OF.add Jq
theorem XN:SqB A1U 2 3 1 1:=λs hs=>by
 rcases List.mem_cons.1 hs with rfl | hs
 .exact ⟨Jn,Dj (by omega) (by omega)⟩
 .rw [List.mem_singleton.1 hs]
  exact ⟨Xw.mono (by omega) (by omega) (by omega),Dj (by omega) (by omega)⟩
theorem Xz:Sim (Fu A1U) A1O:=λf hf=>by
 show Dl f (CV (CV [] (Eu (2:Int) (Fz FA FA))) (Eu (-1:Int) (Fz yL yL)))=Dl f (CV (Eu (2:Int) (Fz FA FA)) (neg (Fz yL yL)))
 rw [Fa,GR hf,GR hf,Uu,JB hf (-1:Int)]
 have:((-1:Int):Rat) = -1:=rfl
 rw [this]
 grind
theorem A1N:PB UZ 2 5 2:=((OF.mul OF (by omega) (by omega)).add Jq).mono (by omega) (by omega) (by omega)
theorem Up{f:(Nat->Int)->Rat}(hf:IT f):Dl f (CV (Fu [⟨(1:Int),xL⟩]) (Hg [FQ] [UZ] 1)) = -f λ_=>0:=by
 show Dl f (CV (CV [] (Eu (1:Int) (Fz xL xL))) (CV [] (Fz FQ UZ)))=_
 rw [Fa,Fa,GR hf,JB hf,LV FQ UZ f hf,Mv,FQ,MD]
 simp only [Dl,HY]
 rw [GR hf,OS,FI]
 simp only [Dl]
 have:((1:Int):Rat)=1:=rfl
 rw [this]
 grind
theorem A1R:SqB [⟨(1:Int),xL⟩] 1 1 1 1:=λs hs=>by
 rw [List.mem_singleton.1 hs]
 exact ⟨OF,Dj (by omega) (by omega)⟩
theorem A2i:PlB [FQ] 1 1 1:=λp hp=>by
 rw [List.mem_singleton.1 hp]
 exact OV
theorem Xx:PlB [UZ] 2 5 2:=λp hp=>by
 rw [List.mem_singleton.1 hp]
 exact A1N
theorem A0w:Canon (CV (Fu [⟨(1:Int),xL⟩]) (Hg [FQ] [UZ] 1)):=((JN A1R (by omega) 1 (Nat.le_refl 1)).add (Lg A2i Xx (by omega) (by omega) rfl 1 (Nat.le_refl 1))).can
theorem A3S:Ev FQ (CV (Fu [⟨(1:Int),xL⟩]) (Hg [FQ] [UZ] [FQ].length))=0:=Ib.2 (Ff OV.can A0w λf hf=>by
 show Dl f FQ=Dl f (CV (Fu [⟨(1:Int),xL⟩]) (Hg [FQ] [UZ] 1))
 rw [Up hf,FQ,MD]
 simp only [Dl]
 grind)
theorem A3T:¬Ev OS (CV (Fu [⟨(1:Int),xL⟩]) (Hg [FQ] [UZ] [FQ].length))=0:=λh=>by
 have h1:=(Ib.1 h).sim (λ_=>1) (λ_ _ _=>rfl)
 rw [show [FQ].length=1 from rfl,Up (λ_ _ _=>rfl),OS,FI] at h1
 simp only [Dl] at h1
 grind
theorem Yi:Abs Tryz.prog 24 [Bp FQ,Iz [⟨(1:Int),xL⟩],plD [FQ],plD [UZ]] (ex (.bool true)):=by
 have:=Kv FQ [⟨(1:Int),xL⟩] [FQ] [UZ] 1 1 2 5 1 1 1 1 1 1 2 1 1 OV A1R (by decide) (λk hk=>by obtain rfl:k=0:=(by simpa using hk);exact (by decide +kernel)) A2i Xx rfl (by decide) (by omega) (by omega) (by omega) (by omega) (by omega) (by omega) (by omega) (by omega) (by omega) (by omega) (by omega) (by omega) (by omega)
 rwa [decide_eq_true A3S] at this
theorem Yj:Abs Tryz.prog 24 [Bp OS,Iz [⟨(1:Int),xL⟩],plD [FQ],plD [UZ]] (ex (.bool false)):=by
 have:=Kv OS [⟨(1:Int),xL⟩] [FQ] [UZ] 1 1 2 5 1 1 1 1 1 1 2 1 1 Jq A1R (by decide) (λk hk=>by obtain rfl:k=0:=(by simpa using hk);exact (by decide +kernel)) A2i Xx rfl (by decide) (by omega) (by omega) (by omega) (by omega) (by omega) (by omega) (by omega) (by omega) (by omega) (by omega) (by omega) (by omega) (by omega)
 rwa [decide_eq_false A3T] at this
abbrev l28:List Sq:=[⟨1,FA⟩,⟨1,OS⟩]
abbrev k28:List Sq:=[⟨(3:Int),OS⟩]
theorem A3U:∀k,k<l28.length->0<=(Ng l28 k).a.num.sign:=Ls (by decide +kernel) (by decide +kernel)
theorem Ji:Abs Tryz.prog 4 [] (ex (.bool true)):=by
 have hpp:=Jn.mul Jn (by omega) (by omega)
 have hyy:=Xw.mul Xw (by omega) (by omega)
 have h2:RSz ((2:Int):Rat) 1:=Dj (by omega) (by omega)
 have hsp:=Jh hpp h2
 have cscale:=IU (2:Int) (Fz FA FA) 1 14 h2 hpp.sz (hpp.ex.mono (Int.le_refl _) (by omega)) (Nat.le_trans hpp.len (by omega)) (by omega)
 have hsum:=JN XN (by omega) 2 (Nat.le_refl 2)
 have csame:=Ol hsum.can (hsp.sub hyy).can Xz
 refine Ab Tryz.func4 λs0=>?_
 rw [Tryz.ntmps4]
 refine Y1<|Wa<|Y0<|Y1 ?_;refine Wq (Af (Zx 0 (by omega))) ?_;refine Wa<|Y0<|Y1 ?_;refine Wq (Af (Zx 1 (by omega))) ?_;refine Wa<|Y0<|Y1 ?_;refine Wq (Af (HU 1 (by omega) (by omega))) ?_;refine Wa<|Y0<|Y1<|Wm<|Wm ?_;refine Wq (Af (PI OF Jq (by omega) (by omega))) ?_;refine Wa<|Y0<|Y1 ?_;refine Wq (Af (Bv 2 (by omega) (by omega))) ?_;refine Wm ?_;(refine Cr rfl rfl ?_;(refine BR (Ad rfl) rfl rfl rfl ?_;(repeat ((first | refine ⟨_,AO (ao rfl),?_⟩ | refine ⟨_,Po rfl,?_⟩);refine ⟨_,rfl,?_⟩));refine ⟨_,rfl,?_⟩));refine Wq (Af (Bv (-1) (by omega) (by omega))) ?_;refine Wm ?_;(refine Cr rfl rfl ?_;(refine BR (Ad rfl) rfl rfl rfl ?_;(repeat ((first | refine ⟨_,AO (ao rfl),?_⟩ | refine ⟨_,Po rfl,?_⟩);refine ⟨_,rfl,?_⟩));refine ⟨_,rfl,?_⟩));(refine Cr rfl rfl ?_;(refine Cx (Ad rfl) (Ad rfl) rfl rfl rfl rfl rfl ?_;(repeat ((first | refine ⟨_,AO (ao rfl),?_⟩ | refine ⟨_,Po rfl,?_⟩);refine ⟨_,rfl,?_⟩));refine ⟨_,rfl,?_⟩));refine Wq (Af (LK A1U 2 3 1 1 XN (by omega) (by decide) (by omega) (by omega) (by omega) (by omega))) ?_;refine Wm ?_;refine Wq Bd ?_;refine Wq Bd ?_;refine Wa<|Wa<|Y0<|Y1 ?_;refine Wq (Af (Bv 2 (by omega) (by omega))) ?_;refine Wm<|Wm ?_;refine Wq (Af (Tk Jn Jn (by omega) (by omega) (by omega) (by omega) (by omega) (by omega))) ?_;refine Wq (Af (cscale)) ?_;refine Wm<|Wm ?_;refine Wq (Af (Tk Xw Xw (by omega) (by omega) (by omega) (by omega) (by omega) (by omega))) ?_;refine Wq (Af (A1b hsp hyy (by omega) (by omega) (by omega))) ?_;refine Wa<|Y0<|Y1 ?_;(refine Cr rfl rfl ?_;(refine FM (Ad rfl) (Ad rfl) rfl rfl ?_;(repeat ((first | refine ⟨_,AO (ao rfl),?_⟩ | refine ⟨_,Po rfl,?_⟩);refine ⟨_,rfl,?_⟩));refine ⟨_,rfl,?_⟩));(refine Cr rfl rfl ?_;(refine FM (Ad rfl) (Ad rfl) rfl rfl ?_;(repeat ((first | refine ⟨_,AO (ao rfl),?_⟩ | refine ⟨_,Po rfl,?_⟩);refine ⟨_,rfl,?_⟩));refine ⟨_,rfl,?_⟩));(refine Cr rfl rfl ?_;(refine Cx (Ad rfl) (Ad rfl) rfl rfl rfl rfl rfl ?_;(repeat ((first | refine ⟨_,AO (ao rfl),?_⟩ | refine ⟨_,Po rfl,?_⟩);refine ⟨_,rfl,?_⟩));refine ⟨_,rfl,?_⟩));refine Wa<|Y0<|Y1<|Wm ?_;refine Wq (Af (FD 1 1 1 2 (by omega) (by omega) (by omega) (by omega))) ?_;refine Wq (Af (Wd)) ?_;refine Wm ?_;refine Wq Bd ?_;refine Wq Bd ?_;refine Wa<|Wa<|Y0<|Y1<|Wm ?_;refine Wq (Af (FD 0 1 1 2 (by omega) (by omega) (by omega) (by omega))) ?_;refine Wq (Af (Wb)) ?_;refine Wm ?_;refine Wq Bd ?_;refine Wq Bd ?_;refine Wa<|Wa<|Y0<|Y1<|Wm ?_;refine Wq (Af (FD 1 2 2 1 (by omega) (by omega) (by omega) (by omega))) ?_;refine Wq (Af (VZ)) ?_;refine Wm ?_;refine Wq Bd ?_;refine Wq Bd ?_;refine Wa<|Wa<|Y0<|Y1<|Wm ?_;refine Wq (Af (FD 0 0 0 3 (by omega) (by omega) (by omega) (by omega))) ?_;refine Wq (Af (Wc)) ?_;refine Wm ?_;refine Wq Bd ?_;refine Wq Bd ?_;refine Wa<|Wa<|Y0<|Aa ?_
 refine Hc (DR (e:=9) (by kernel_rfl) (K4 (K4 (AddE.keep (AddE.keep (AddE.add (AddE.keep AddE.nil)))))) (by kernel_rfl)) [[],[(77,0)],[],[],[(79,2),(80,3)],[(81,4)],[(78,1),(82,5)],[(83,6)],[(76,7)],[(76,7)]] [[],[0],[],[2],[2,3],[2,3,4],[0,1,2,3,4,5],[0,1,2,3,4,5,6],[0,1,2,3,4,5,6,7],[0,1,2,3,4,5,6,7]] rfl (by kernel_rfl) (by kernel_rfl) (by kernel_rfl) ?_
 refine Xq Ae ?_;refine Xq (ZI (f:=BW) (l:=NP) (i:=1) rfl (ah rfl) (Ad rfl) (Ad rfl) rfl (by decide)) ?_;refine Xq (Af (Bv 1 (by omega) (by omega))) ?_;refine Xq (Af (Bv 0 (by omega) (by omega))) ?_;(refine Hq rfl ?_;refine Cx (Ad rfl) (Ad rfl) rfl rfl rfl rfl rfl ?_;(repeat ((first | refine ⟨_,AO (ah rfl),?_⟩ | refine ⟨_,Po rfl,?_⟩);refine ⟨_,rfl,?_⟩));refine ⟨_,rfl,?_⟩;refine ⟨_,rfl,?_⟩);(refine Hq rfl ?_;refine Cx (Ad rfl) (Ad rfl) rfl rfl rfl rfl rfl ?_;(repeat ((first | refine ⟨_,AO (ah rfl),?_⟩ | refine ⟨_,Po rfl,?_⟩);refine ⟨_,rfl,?_⟩));refine ⟨_,rfl,?_⟩;refine ⟨_,rfl,?_⟩);refine Xq (Af (VX)) ?_;refine Xq Ae ?_;refine Xq Bd ?_;refine Xq Bd ?_;refine ⟨_,rfl,?_⟩
 refine Wa<|Wa<|AWl.nil ?_;apply OnlyN.mk';refine Yn<|Y1<|Wm ?_;refine Wq (Af (FD 1 2 3 4 (by omega) (by omega) (by omega) (by omega))) ?_;refine Wq (Af (VY)) ?_;refine Wm ?_;refine Wq Bd ?_;refine Wq Bd ?_;refine Wa<|Wa<|Y0<|Aa<|Y1<|Wm ?_;refine Wq Aj ?_;refine Wm ?_;refine Wg Ae ?_;refine Wg Aj ?_;refine Wq Az ?_;refine Wm ?_;refine Wg Ae ?_;refine Wg Aj ?_;refine Wq Az ?_;refine Wm ?_;refine Wg Ae ?_;refine Wg Aj ?_;refine Wq Az ?_;refine Wm ?_;refine Wg Ae ?_;refine Wg Aj ?_;refine Wq Az ?_;refine Wm ?_;refine Wg Ae ?_;refine Wg Aj ?_;refine Wq Az ?_;refine Wm ?_;refine Wg Ae ?_;refine Wg Aj ?_;refine Wq Az ?_;refine Y0<|Cf<|Ys<|Y1<|Wm<|Wm ?_;refine Wq (Af (Tk OF OF (by omega) (by omega) (by omega) (by omega) (by omega) (by omega))) ?_;refine Wm ?_;refine Wq (Af (PI (OF.mul OF (by omega) (by omega)) Jq (by omega) (by omega))) ?_;(refine Cr rfl rfl ?_;(refine Cx (Ad rfl) (Ad rfl) rfl rfl rfl rfl rfl ?_;(repeat ((first | refine ⟨_,AO (ao rfl),?_⟩ | refine ⟨_,Po rfl,?_⟩);refine ⟨_,rfl,?_⟩));refine ⟨_,rfl,?_⟩));refine Wa<|Y0<|Y1 ?_;refine Wq (Af (HU (-1) (by omega) (by omega))) ?_;refine Wq (Af (Bv 1 (by omega) (by omega))) ?_;refine Wm ?_;(refine Cr rfl rfl ?_;(refine BR (Ad rfl) rfl rfl rfl ?_;(repeat ((first | refine ⟨_,AO (ao rfl),?_⟩ | refine ⟨_,Po rfl,?_⟩);refine ⟨_,rfl,?_⟩));refine ⟨_,rfl,?_⟩));refine Wq (BJ (ao rfl) (Ad rfl) (Ad rfl) rfl rfl rfl rfl rfl) ?_;refine Wq (Af (HU (-1) (by omega) (by omega))) ?_;(refine Cr rfl rfl ?_;(refine Cx (Ad rfl) (Ad rfl) rfl rfl rfl rfl rfl ?_;(repeat ((first | refine ⟨_,AO (ao rfl),?_⟩ | refine ⟨_,Po rfl,?_⟩);refine ⟨_,rfl,?_⟩));refine ⟨_,rfl,?_⟩));refine Wm ?_;refine Wq (Af (Yi)) ?_;refine Wm ?_;refine Wg (Af (HU 1 (by omega) (by omega))) ?_;refine Wg (Af (Bv 1 (by omega) (by omega))) ?_;refine Wg Ae ?_;(refine HX rfl rfl rfl rfl rfl ?_;(refine BR (Ad rfl) rfl rfl rfl ?_;(repeat ((first | refine ⟨_,AO (ao rfl),?_⟩ | refine ⟨_,Po rfl,?_⟩);refine ⟨_,rfl,?_⟩));refine ⟨_,rfl,?_⟩));refine Wg (BJ (ao rfl) (Ad rfl) (Ad rfl) rfl rfl rfl rfl rfl) ?_;refine Wg (Af (HU (-1) (by omega) (by omega))) ?_;(refine HX rfl rfl rfl rfl rfl ?_;(refine Cx (Ad rfl) (Ad rfl) rfl rfl rfl rfl rfl ?_;(repeat ((first | refine ⟨_,AO (ao rfl),?_⟩ | refine ⟨_,Po rfl,?_⟩);refine ⟨_,rfl,?_⟩));refine ⟨_,rfl,?_⟩));refine Wg Ae ?_;refine Wg (Af (Yj)) ?_;refine Wg Bl ?_;refine Wq AE ?_;refine Wa<|Y0<|Y1<|Wm<|Wm ?_;refine Wg Ae ?_;refine Wg Ae ?_;refine Wg (Af (csame)) ?_;refine Wq AE ?_;refine Wm ?_;refine Wg Ae ?_;refine Wg (Af (Bv 1 (by omega) (by omega))) ?_;refine Wg Ae ?_;(refine HX rfl rfl rfl rfl rfl ?_;(refine BR (Ad rfl) rfl rfl rfl ?_;(repeat ((first | refine ⟨_,AO (ao rfl),?_⟩ | refine ⟨_,Po rfl,?_⟩);refine ⟨_,rfl,?_⟩));refine ⟨_,rfl,?_⟩));refine Wg (Af (Bv 1 (by omega) (by omega))) ?_;refine Wg Ae ?_;(refine HX rfl rfl rfl rfl rfl ?_;(refine BR (Ad rfl) rfl rfl rfl ?_;(repeat ((first | refine ⟨_,AO (ao rfl),?_⟩ | refine ⟨_,Po rfl,?_⟩);refine ⟨_,rfl,?_⟩));refine ⟨_,rfl,?_⟩));(refine HX rfl rfl rfl rfl rfl ?_;(refine Cx (Ad rfl) (Ad rfl) rfl rfl rfl rfl rfl ?_;(repeat ((first | refine ⟨_,AO (ao rfl),?_⟩ | refine ⟨_,Po rfl,?_⟩);refine ⟨_,rfl,?_⟩));refine ⟨_,rfl,?_⟩));refine Wg (Af (MM l28 (by decide))) ?_;refine Wq AE ?_;refine Wm ?_;refine Wg Ae ?_;refine Wg (Af (Bv 3 (by omega) (by omega))) ?_;refine Wg Ae ?_;(refine HX rfl rfl rfl rfl rfl ?_;(refine BR (Ad rfl) rfl rfl rfl ?_;(repeat ((first | refine ⟨_,AO (ao rfl),?_⟩ | refine ⟨_,Po rfl,?_⟩);refine ⟨_,rfl,?_⟩));refine ⟨_,rfl,?_⟩));refine Wg (BJ (ao rfl) (Ad rfl) (Ad rfl) rfl rfl rfl rfl rfl) ?_;refine Wg (Af (MM k28 (by decide))) ?_;refine Wq AE ?_;refine Wm ?_;refine Wg Ae ?_;refine Wg (Af (NE l28 (by decide) A3U)) ?_;refine Wq AE ?_;refine Wm ?_;refine Wg (Af (Bv (-1) (by omega) (by omega))) ?_;refine Wg Ae ?_;(refine HX rfl rfl rfl rfl rfl ?_;(refine BR (Ad rfl) rfl rfl rfl ?_;(repeat ((first | refine ⟨_,AO (ao rfl),?_⟩ | refine ⟨_,Po rfl,?_⟩);refine ⟨_,rfl,?_⟩));refine ⟨_,rfl,?_⟩));refine Wg (BJ (ao rfl) (Ad rfl) (Ad rfl) rfl rfl rfl rfl rfl) ?_;refine Wg (Af (Vk [⟨(-1:Int),xL⟩] (by decide) 0 (by decide) (λk h=>absurd h (Nat.not_lt_zero k)) (by decide +kernel))) ?_;refine Wg Bl ?_;refine Wq AE ?_;refine Wa<|Y0<|At ?_
 exact Yf
end Go.Proofs.YtnbfnoebjjdmnaaGreat
