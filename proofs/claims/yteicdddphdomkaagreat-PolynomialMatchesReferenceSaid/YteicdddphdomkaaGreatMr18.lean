/-
  Part 18 of the proof that polynomialMatchesReference_holds holds; the statement is the last theorem of the last part. No condition.
-/
import Derived.Test.YteicdddphdomkaaGreatMr17
set_option linter.unusedSimpArgs false
set_option linter.unusedVariables false
namespace Go.Proofs.YteicdddphdomkaaGreat
open Go.RowKit
set_option maxRecDepth 100000
theorem RConst_abs (c : Rat):Abs Tryz.prog 63 [agD (ratC c)] (polD (constL c)):=by
 by_cases hz:c = 0
 ·have hs:=num_sign0.2 hz
  refine Abs.intro Tryz.func63 rfl (callFunc_run Tryz.func63 (by kernel_rfl) (by kernel_rfl)) rfl fun s0=>?_
  rw [Tryz.ntmps63]
  apply AWp.seq;apply AWp.region;refine AWs.bx (ao rfl) rfl rfl rfl rfl ?_;refine Wq Qz.assign ?_;apply AWl.nil;apply AThen.normal;apply AWp.seq;apply AWp.seq;apply AWp.region;refine Wq Qz.ldD ?_;refine Wq (Qz.call (RSign_abs c)) ?_;refine Wq Qz.cmpT ?_;apply AWl.nil;apply AThen.normal;refine AWp.condT (ao rfl) ?_;apply AWp.seq;apply AWp.region;refine Wq Qz.assign ?_;apply AWl.nil;apply AThen.normal;apply AWp.ret;apply AThen.ret
  exact Fin.ret (Rets.of1 (ResV.tmp rfl rfl) (D.le.trans D.le_nilP (D.le_pol (by rw [constL,if_pos hz]))))
 ·have hs:c.num.sign ≠ 0:=fun e=>hz (num_sign0.1 e)
  refine Abs.intro Tryz.func63 rfl (callFunc_run Tryz.func63 (by kernel_rfl) (by kernel_rfl)) rfl fun s0=>?_
  rw [Tryz.ntmps63]
  apply AWp.seq;apply AWp.region;refine AWs.bx (ao rfl) rfl rfl rfl rfl ?_;refine Wq Qz.assign ?_;apply AWl.nil;apply AThen.normal;apply AWp.seq;apply AWp.seq;apply AWp.region;refine Wq Qz.ldD ?_;refine Wq (Qz.call (RSign_abs c)) ?_;refine Wq Qz.cmpF ?_;apply AWl.nil;apply AThen.normal;refine AWp.condF (ao rfl) ?_;apply AWp.skip;apply AThen.normal;apply AWp.seq;apply AWp.region;refine Wq Qz.ldD ?_;(refine AWs.q rfl rfl ?_;(refine Bq.build (tab_of rfl) rfl rfl rfl ?_;(repeat ((first | refine ⟨_,PartOk.ag (ao rfl),?_⟩ | refine ⟨_,PartOk.one rfl (by first | exact One.ex_ rfl | exact One.sl | exact One.ep),?_⟩);refine ⟨_,rfl,?_⟩));refine ⟨_,rfl,?_⟩));(refine AWs.q rfl rfl ?_;refine ⟨_,Bq.slice1 (ao rfl) (tab_of rfl) (tab_of rfl) rfl rfl rfl rfl rfl,?_⟩);refine Wq Qz.assign ?_;apply AWl.nil;apply AThen.normal;apply AWp.ret
  exact Fin.ret (Rets.of1 (ResV.tmp rfl rfl) (D.le.of_eq (by rw [constL,if_neg hz];rfl)))
theorem RInt_abs (n : Int) (h0:-9223372036854775808≤n) (h1:n≤9223372036854775807):Abs Tryz.prog 64 [ex (.int .i64 n)] (polD (constL n)):=by
 refine Abs.intro Tryz.func64 rfl (callFunc_run Tryz.func64 (by kernel_rfl) (by kernel_rfl)) rfl fun s0=>?_
 rw [Tryz.ntmps64]
 apply AWp.seq;apply AWp.region;refine Wq Qz.assign ?_;apply AWl.nil;apply AThen.normal;apply AWp.seq;apply AWp.region;refine Wq Qz.move ?_;refine Wq (Qz.call (RWhole_abs n h0 h1)) ?_;refine Wq (Qz.call (RConst_abs n)) ?_;refine Wq Qz.assign ?_;apply AWl.nil;apply AThen.normal;apply AWp.ret
 exact Fin.ret (Rets.of1 (ResV.tmp rfl rfl) (D.le.refl _))
theorem RVar_abs (i : Nat) (hi:i<8):Abs Tryz.prog 116 [ex (.int .i64 (i:Nat))] (tupD [polD [⟨1,unitE i⟩],ex (.int .i64 0)]):=by
 refine Abs.intro Tryz.func116 rfl (callFunc_run Tryz.func116 (by kernel_rfl) (by kernel_rfl)) rfl fun s0=>?_
 rw [Tryz.ntmps116]
 apply AWp.seq;apply AWp.region;refine Wq Qz.assign ?_;refine Wq Qz.assign ?_;apply AWl.nil;apply AThen.normal;apply AWp.seq;apply AWp.seq;apply AWp.region;refine Wq Qz.move ?_;refine Wq Qz.cmpF ?_;refine Wq Qz.move ?_;refine Wg Qz.move ?_;refine Wg Qz.cmpF ?_;refine Wq Qz.pickF ?_;apply AWl.nil;apply AThen.normal;refine AWp.condF (ao rfl) ?_;apply AWp.skip;apply AThen.normal;apply AWp.seq;apply AWp.region;(refine AWs.q rfl rfl ?_;(refine Bq.arr (tab_of rfl) (tab_of rfl) rfl rfl ?_;(repeat ((first | refine ⟨_,PartOk.ag (ao rfl),?_⟩ | refine ⟨_,PartOk.one rfl (by first | exact One.ex_ rfl | exact One.sl | exact One.ep),?_⟩);refine ⟨_,rfl,?_⟩));refine ⟨_,rfl,?_⟩));refine AWs.al (tab_of rfl) rfl rfl rfl rfl rfl rfl ?_;refine AWs.stF (ao rfl) (ao rfl) rfl (tab_of rfl) rfl rfl rfl ?_;apply AWl.nil;apply AThen.normal;apply AWp.seq;apply AWp.region;refine Wq Qz.move ?_;refine Wq Qz.ixP ?_
 refine AWl.fold 0 (monC fun _=>0) rfl rfl rfl ?_
 (refine AWs.stX1 (ao rfl) (ao rfl) rfl (tab_of rfl) (by first | exact One.ex_ rfl | exact One.sl | exact One.ep) (SetAt.mon (by first | omega | (simp;omega))) rfl ?_);apply AWl.nil;apply AThen.normal;apply AWp.seq
 refine AWp.dr' (DrawOk.self (by kernel_rfl)) [[],[],[(14,0),(15,1)],[(16,2)]] [[],[],[0,1],[0,1,2]] rfl (by kernel_rfl) (by kernel_rfl) (by kernel_rfl) ?_
 refine Xq (Qz.call (RWhole_abs 1 (by omega) (by omega))) ?_;refine Xq Qz.ldD ?_;(refine Hq rfl ?_;refine Bq.build (tab_of rfl) rfl rfl rfl ?_;(repeat ((first | refine ⟨_,PartOk.ag (ah rfl),?_⟩ | refine ⟨_,PartOk.one rfl (by first | exact One.ex_ rfl | exact One.sl | exact One.ep),?_⟩);refine ⟨_,rfl,?_⟩));refine ⟨_,rfl,?_⟩;refine ⟨_,rfl,?_⟩);(refine ⟨_,HStep.q rfl (Bq.slice1 (ah rfl) (tab_of rfl) (tab_of rfl) rfl rfl rfl rfl rfl),?_⟩;refine ⟨_,rfl,?_⟩);refine ⟨_,rfl,?_⟩
 refine Wq Qz.assign ?_;refine Wq Qz.assign ?_;apply AWl.nil;apply AThen.normal;apply AWp.ret
 exact Fin.ret (Rets.of2 (ResV.tmp rfl rfl) (ResV.tmp rfl rfl) (D.le.tup2 (D.le.refl _) (D.le.refl _)))
theorem RX_abs (i : Nat) (hi:i<8):Abs Tryz.prog 49 [ex (.int .i64 (i:Nat))] (polD [⟨1,unitE i⟩]):=by
 refine Abs.intro Tryz.func49 rfl (callFunc_run Tryz.func49 (by kernel_rfl) (by kernel_rfl)) rfl fun s0=>?_
 rw [Tryz.ntmps49]
 apply AWp.seq;apply AWp.region;refine Wq Qz.assign ?_;apply AWl.nil;apply AThen.normal;apply AWp.seq;apply AWp.region;refine Wq Qz.move ?_;refine Wq (Qz.call (RVar_abs i hi)) ?_;refine Wq Qz.move ?_;refine Wq Qz.ext ?_;refine Wq Qz.ext ?_;refine Wq Qz.assign ?_;refine Wq Qz.assign ?_;apply AWl.nil;apply AThen.normal;apply AWp.seq;apply AWp.region;refine Wq Qz.move ?_;refine Wq Qz.assign ?_;apply AWl.nil;apply AThen.normal;apply AWp.ret
 exact Fin.ret (Rets.of1 (ResV.tmp rfl rfl) (D.le.refl _))
def mixM (a b:Nat→Int) (k:Nat):Nat→Int:=fun j=>if j<k then a j+b j else a j
theorem mixM_set (a b:Nat→Int) (k:Nat):setM (mixM a b k) k (a k+b k) = mixM a b (k+1):=by
 funext j
 simp only [setM,mixM]
 rcases Nat.lt_trichotomy j k with h | h | h
 ·rw [if_neg (by omega),if_pos h,if_pos (by omega)]
 ·subst h;simp
 ·rw [if_neg (by omega),if_neg (by omega),if_neg (by omega)]
theorem mixM_at (a b:Nat→Int) (k:Nat):mixM a b k k = a k:=if_neg (Nat.lt_irrefl k)
theorem RmMul_abs (a b:Nat→Int) (ha:In8 a 0 65535) (hb:In8 b 0 65535) (h:In8 (add8 a b) 0 65535):Abs Tryz.prog 36 [agD (monC a),agD (monC b)] (tupD [agD (monC (add8 a b)),ex (.int .i64 0)]):=by
 refine Abs.intro Tryz.func36 rfl (callFunc_run Tryz.func36 (by kernel_rfl) (by kernel_rfl)) rfl fun s0=>?_
 rw [Tryz.ntmps36]
 apply AWp.seq;apply AWp.region;refine AWs.bx (ao rfl) rfl rfl rfl rfl ?_;refine AWs.bx (ao rfl) rfl rfl rfl rfl ?_;refine AWs.al (tab_of rfl) rfl rfl rfl rfl rfl rfl ?_;refine Wq Qz.assign ?_;apply AWl.nil;apply AThen.normal;apply AWp.seq;apply AWp.seq;apply AWp.region;refine Wq Qz.assign ?_;apply AWl.nil;apply AThen.normal;apply AWp.block
 refine AWp.loop (fun mz σ=>∃ k,k≤8∧mz = 8 - k∧σ = ⟨[(2,.ptr 0 0),(3,.ptr 1 0),(4,.ptr 2 0),(6,.d (ex (.int .i64 (k:Nat))))],[.var 31 ((monC (mixM a b k)).map .d),.var 31 ((monC b).map .d),.var 31 ((monC fun _=>0).map .d)]⟩) ?le ⟨0,by omega,rfl,rfl⟩ ?round
 case le=>exact AS.le_of (by refine FrLe.cons rfl (AVle.ptr rfl) ?_;refine FrLe.cons rfl (AVle.ptr rfl) ?_;refine FrLe.cons rfl (AVle.ptr rfl) ?_;refine FrLe.cons rfl (AVle.d rfl) ?_;exact FrLe.nil) (by refine HpLe.cons (OwLe.varD rfl) ?_;refine HpLe.cons (OwLe.varD rfl) ?_;refine HpLe.cons (OwLe.varD rfl) ?_;exact HpLe.nil)
 case round =>
  rintro mz _ ⟨k,hk,rfl,rfl⟩
  by_cases hlt:k<8
  ·have h1:=mixM_at a b k
   have h2:=ha k hlt
   have h3:=hb k hlt
   apply AWp.seq;apply AWp.seq;apply AWp.region;refine Wq Qz.move ?_;refine Wq Qz.cmpT ?_;apply AWl.nil;apply AThen.normal;refine AWp.condT (ao rfl) ?_;apply AWp.skip;apply AThen.normal;apply AWp.seq;apply AWp.block
   refine AWp.dr' (DrawOk.self (by kernel_rfl)) [[],[(11,0)],[(12,1)],[],[(14,3)],[(15,4)],[(13,2),(16,5)],[(11,0)]] [[],[0],[0,1],[],[3],[3,4],[0,1,2,3,4,5],[0,1,2,3,4,5,6]] rfl (by kernel_rfl) (by kernel_rfl) (by kernel_rfl) ?_
   refine Xq Qz.move ?_;refine Xq Qz.ixP ?_;refine Xq Qz.ldX1 ?_;refine Xq Qz.move ?_;refine Xq Qz.ixP ?_;refine Xq Qz.ldX1 ?_;refine Xq Qz.add ?_;refine Xq Qz.ixP ?_;refine ⟨_,rfl,?_⟩
   (refine AWs.stX1 (ao rfl) (ao rfl) rfl (tab_of rfl) (by first | exact One.ex_ rfl | exact One.sl | exact One.ep) (SetAt.mon (by first | omega | (simp;omega))) rfl ?_);apply AWl.nil;apply ABlock.normal;apply AThen.normal;apply AWp.region;refine Wq Qz.move ?_;refine Wq Qz.succ ?_;refine Wq Qz.assign ?_;apply AWl.nil
   refine ALoop.next (8 - (k+1)) (by omega) ⟨k+1,by omega,rfl,rfl⟩ ?_
   exact AS.le_of (by refine FrLe.cons rfl (AVle.ptr rfl) ?_;refine FrLe.cons rfl (AVle.ptr rfl) ?_;refine FrLe.cons rfl (AVle.ptr rfl) ?_;refine FrLe.cons rfl (AVle.d rfl) ?_;exact FrLe.nil) (by refine HpLe.cons (OwLe.varD (by rw [h1,mixM_set])) ?_;refine HpLe.cons (OwLe.varD rfl) ?_;refine HpLe.cons (OwLe.varD rfl) ?_;exact HpLe.nil)
  ·obtain rfl : k = 8 := by omega
   apply AWp.seq;apply AWp.seq;apply AWp.region;refine Wq Qz.move ?_;refine Wq Qz.cmpF ?_;apply AWl.nil;apply AThen.normal;refine AWp.condF (ao rfl) ?_;apply AWp.exit;apply AThen.exit;apply ALoop.exit;apply ABlock.hit;apply AThen.normal;apply AWp.seq;apply AWp.seq;apply AWp.region;refine Wq Qz.ldD ?_;refine Wq (Qz.call (RmValidT_abs (mixM a b 8) fun i hi=>by have:=h i hi;rw [mixM,if_pos hi];exact this)) ?_;refine Wq Qz.not ?_;apply AWl.nil;apply AThen.normal;refine AWp.condF (ao rfl) ?_;apply AWp.skip;apply AThen.normal;apply AWp.seq;apply AWp.region;refine Wq Qz.ldD ?_;refine AWs.stF (ao rfl) (ao rfl) rfl (tab_of rfl) rfl rfl rfl ?_;refine Wq Qz.assign ?_;apply AWl.nil;apply AThen.normal;apply AWp.ret
   exact Fin.ret (Rets.of2 (ResV.cell rfl rfl (tab_of rfl) rfl rfl rfl) (ResV.tmp rfl rfl) (D.le.tup2 (D.le.refl _) (D.le.refl _)))
end Go.Proofs.YteicdddphdomkaaGreat
namespace Go.Proofs.YteicdddphdomkaaGreat
open Go.RowKit
set_option maxRecDepth 100000
theorem mrg_gt {s t:Tm} {P Q:List Tm} (h:lx s.m t.m = 1):mrg (s :: P) (t :: Q) = s :: mrg P (t :: Q):=by
 rw [mrg,if_pos (show 0<lx s.m t.m by omega)]
theorem mrg_lt {s t:Tm} {P Q:List Tm} (h:lx s.m t.m = -1):mrg (s :: P) (t :: Q) = t :: mrg (s :: P) Q:=by
 rw [mrg,if_neg (show ¬ 0<lx s.m t.m by omega),if_pos (show lx s.m t.m<0 by omega)]
theorem mrg_eq {s t:Tm} {P Q:List Tm} (h:lx s.m t.m = 0):mrg (s :: P) (t :: Q) = if s.c+t.c = 0 then mrg P Q else ⟨s.c+t.c,s.m⟩ :: mrg P Q:=by
 rw [mrg,if_neg (show ¬ 0<lx s.m t.m by omega),if_neg (show ¬ lx s.m t.m<0 by omega)]
theorem nil_mrg (Q : List Tm):mrg [] Q = Q:=by rw [mrg]
set_option maxHeartbeats 1000000 in
theorem RAdd_pol (P Q:List Tm) (N M:Nat) (hP:PSz P N) (hQ:PSz Q M) (hNM:N+M+1≤4398046511103) (hn:P.length+Q.length≤100000):Abs Tryz.prog 56 [polD P,polD Q] (polD (mrg P Q)):=by
 refine Abs.intro Tryz.func56 rfl (callFunc_run Tryz.func56 (by kernel_rfl) (by kernel_rfl)) rfl fun s0=>?_
 rw [Tryz.ntmps56]
 apply AWp.seq;apply AWp.region;refine Wq Qz.assign ?_;apply AWl.nil;apply AThen.normal;apply AWp.seq;apply AWp.region;refine AWs.b0 (tab_of rfl) (tab_of rfl) rfl rfl rfl rfl rfl ?_;refine Wq Qz.assign ?_;apply AWl.nil;apply AThen.normal;apply AWp.seq;apply AWp.region;refine Wq Qz.assign ?_;refine Wq Qz.assign ?_;apply AWl.nil;apply AThen.normal;apply AWp.seq;apply AWp.block
 refine AWp.loop (fun mz σ=>∃ (i k:Nat) (R:List Tm),i≤P.length∧k≤Q.length∧R ++ mrg (P.drop i) (Q.drop k) = mrg P Q∧R.length≤i+k∧mz = (P.length - i)+(Q.length - k)∧σ = ⟨[(0,.d (polD P)),(1,.d (polD Q)),(5,.own 0),(6,.d (ex (.int .i64 (i:Nat)))),(7,.d (ex (.int .i64 (k:Nat))))],[.row 33 12 (R.map tmC)]⟩) ?le ⟨0,0,[],by omega,by omega,rfl,by simp,rfl,rfl⟩ ?round
 case le=>exact AS.le_of (by refine FrLe.cons rfl (AVle.d rfl) ?_;refine FrLe.cons rfl (AVle.d rfl) ?_;refine FrLe.cons rfl (AVle.own rfl) ?_;refine FrLe.cons rfl (AVle.d rfl) ?_;refine FrLe.cons rfl (AVle.d rfl) ?_;exact FrLe.nil) (by refine HpLe.cons (OwLe.row rfl) ?_;exact HpLe.nil)
 case round =>
  rintro mz _ ⟨i,k,R,hi,hk,heq,hl,rfl,rfl⟩
  by_cases hip:i<P.length
  ·have hdP:=drop_tAt hip
   by_cases hkq:k<Q.length
   ·have hdQ:=drop_tAt hkq
    rw [hdP,hdQ] at heq
    have hs:=hP _ (tAt_mem hip)
    have ht:=hQ _ (tAt_mem hkq)
    rcases lx_val (tAt P i).m (tAt Q k).m with hc | hc | hc
    ·have hc' : lex8 (tAt P i).m (tAt Q k).m = -1 := by rw [← lx_lex]; exact hc
     apply AWp.seq;apply AWp.seq;apply AWp.region;refine Wq Qz.move ?_;refine Wq Qz.move ?_;refine Wq Qz.lenN ?_;refine Wq Qz.cmpT ?_;refine Wq Qz.move ?_;refine Ws ?_;refine Ws ?_;refine Ws ?_;refine Ws ?_;refine Wq Qz.pickT ?_;apply AWl.nil;apply AThen.normal;refine AWp.condT (ao rfl) ?_;apply AWp.skip;apply AThen.normal;apply AWp.block;apply AWp.seq;apply AWp.seq
     refine AWp.dr' (DrawOk.self (by kernel_rfl)) [[],[],[(21,1)],[(20,0),(22,2)],[(23,3)],[],[],[(26,6)],[(25,5),(27,7)],[(28,8)],[],[],[(30,10),(31,11)],[(32,12)],[(33,13)],[],[],[(35,15),(36,16)],[(37,17)],[(38,18)],[(34,14),(39,19)],[(40,20)],[(29,9),(41,21)],[(24,4),(42,22)]] [[],[],[1],[0,1,2],[0,1,2,3],[0,1,2,3,4],[0,1,2,3,4],[0,1,2,3,4,6],[0,1,2,3,4,5,6,7],[0,1,2,3,4,5,6,7,8],[0,1,2,3,4,5,6,7,8,9],[0,1,2,3,4,5,6,7,8,9],[0,1,2,3,4,5,6,7,8,9,10,11],[0,1,2,3,4,5,6,7,8,9,10,11,12],[0,1,2,3,4,5,6,7,8,9,10,11,12,13],[0,1,2,3,4,5,6,7,8,9],[0,1,2,3,4,5,6,7,8,9],[0,1,2,3,4,5,6,7,8,9,15,16],[0,1,2,3,4,5,6,7,8,9,15,16,17],[0,1,2,3,4,5,6,7,8,9,15,16,17,18],[0,1,2,3,4,5,6,7,8,9,10,11,12,13,14,15,16,17,18,19],[0,1,2,3,4,5,6,7,8,9,10,11,12,13,14,15,16,17,18,19,20],[0,1,2,3,4,5,6,7,8,9,10,11,12,13,14,15,16,17,18,19,20,21],[0,1,2,3,4,5,6,7,8,9,10,11,12,13,14,15,16,17,18,19,20,21,22]] rfl (by kernel_rfl) (by kernel_rfl) (by kernel_rfl) ?_
     refine Xq Qz.move ?_;refine Xq Qz.move ?_;refine Xq Qz.lenN ?_;refine Xq Qz.cmpF ?_;refine Xq Qz.move ?_;refine Xg Qz.move ?_;refine Xg Qz.move ?_;refine Xg Qz.lenN ?_;refine Xg Qz.cmpT ?_;refine Xg Qz.move ?_;refine Xg Qz.move ?_;refine Xg Qz.move ?_;refine Xg Qz.indexN ?_;refine Xg Qz.fldE ?_;refine Xg Qz.loadEf ?_;refine Xg Qz.move ?_;refine Xg Qz.move ?_;refine Xg Qz.indexN ?_;refine Xg Qz.fldE ?_;refine Xg Qz.loadEf ?_;refine Xg (Qz.call (RmCmp_abs (tAt P i).m (tAt Q k).m)) ?_;refine Xg Qz.cmpF ?_;refine Xg Qz.pickT ?_;refine Xq Qz.pickF ?_;refine ⟨_,rfl,?_⟩
     apply AWl.nil;apply AThen.normal;refine AWp.condF (ao rfl) ?_;apply AWp.skip;apply AThen.normal;apply AWp.seq;apply AWp.seq
     refine AWp.dr' (DrawOk.self (by kernel_rfl)) [[],[],[(54,1)],[(53,0),(55,2)],[(56,3)],[],[],[(58,5),(59,6)],[(60,7)],[(61,8)],[],[],[(63,10),(64,11)],[(65,12)],[(66,13)],[(62,9),(67,14)],[(68,15)],[(57,4),(69,16)]] [[],[],[1],[0,1,2],[0,1,2,3],[0,1,2,3,4],[0,1,2,3,4],[0,1,2,3,4,5,6],[0,1,2,3,4,5,6,7],[0,1,2,3,4,5,6,7,8],[0,1,2,3,4],[0,1,2,3,4],[0,1,2,3,4,10,11],[0,1,2,3,4,10,11,12],[0,1,2,3,4,10,11,12,13],[0,1,2,3,4,5,6,7,8,9,10,11,12,13,14],[0,1,2,3,4,5,6,7,8,9,10,11,12,13,14,15],[0,1,2,3,4,5,6,7,8,9,10,11,12,13,14,15,16]] rfl (by kernel_rfl) (by kernel_rfl) (by kernel_rfl) ?_
     refine Xq Qz.move ?_;refine Xq Qz.move ?_;refine Xq Qz.lenN ?_;refine Xq Qz.cmpF ?_;refine Xq Qz.move ?_;refine Xg Qz.move ?_;refine Xg Qz.move ?_;refine Xg Qz.indexN ?_;refine Xg Qz.fldE ?_;refine Xg Qz.loadEf ?_;refine Xg Qz.move ?_;refine Xg Qz.move ?_;refine Xg Qz.indexN ?_;refine Xg Qz.fldE ?_;refine Xg Qz.loadEf ?_;refine Xg (Qz.call (RmCmp_abs (tAt P i).m (tAt Q k).m)) ?_;refine Xg Qz.cmpT ?_;refine Xq Qz.pickF ?_;refine ⟨_,rfl,?_⟩
     apply AWl.nil;apply AThen.normal;refine AWp.condT (ao rfl) ?_;apply AWp.seq;apply AWp.region;refine Wq Qz.move ?_;refine Wq Qz.move ?_;refine Wq Qz.move ?_;refine Wq Qz.indexN ?_;refine Wq Qz.loadEf ?_;(refine AWs.q rfl rfl ?_;refine ⟨_,Bq.slice1 (ao rfl) (tab_of rfl) (tab_of rfl) rfl rfl rfl rfl rfl,?_⟩);(refine AWs.app (ao rfl) rfl rfl (tab_of rfl) (tab_of rfl) rfl rfl (by simp;omega) (by simp;omega) rfl (by first | ((repeat (first | exact PlainHp.nil | refine PlainHp.var ?_ | refine PlainHp.row ?_ | refine PlainHp.dead ?_));done) | fail) rfl ?_);refine Wq Qz.assign ?_;apply AWl.nil;apply AThen.normal;apply AWp.seq;apply AWp.region;refine Wq Qz.move ?_;refine Wq Qz.succ ?_;refine Wq Qz.assign ?_;apply AWl.nil;apply AThen.normal;apply AWp.exit;apply AThen.exit;apply ABlock.hit
     refine ALoop.next ((P.length - i)+(Q.length - (k+1))) (by omega) ⟨i,k+1,R ++ [tAt Q k],by omega,by omega,?_,by simp;omega,rfl,rfl⟩ ?_
     ·rw [mrg_lt hc] at heq
      rw [← heq,hdP];simp
     ·exact AS.le_of (by refine FrLe.cons rfl (AVle.d rfl) ?_;refine FrLe.cons rfl (AVle.d rfl) ?_;refine FrLe.cons rfl (AVle.own rfl) ?_;refine FrLe.cons rfl (AVle.d rfl) ?_;refine FrLe.cons rfl (AVle.d rfl) ?_;exact FrLe.nil) (by refine HpLe.cons (OwLe.row (map_snoc tmC R (tAt Q k))) ?_;exact HpLe.nil)
    ·have hc' : lex8 (tAt P i).m (tAt Q k).m = 0 := by rw [← lx_lex]; exact hc
     by_cases hz:(tAt P i).c+(tAt Q k).c = 0
     ·have hsg:=num_sign0.2 hz
      apply AWp.seq;apply AWp.seq;apply AWp.region;refine Wq Qz.move ?_;refine Wq Qz.move ?_;refine Wq Qz.lenN ?_;refine Wq Qz.cmpT ?_;refine Wq Qz.move ?_;refine Ws ?_;refine Ws ?_;refine Ws ?_;refine Ws ?_;refine Wq Qz.pickT ?_;apply AWl.nil;apply AThen.normal;refine AWp.condT (ao rfl) ?_;apply AWp.skip;apply AThen.normal;apply AWp.block;apply AWp.seq;apply AWp.seq
      refine AWp.dr' (DrawOk.self (by kernel_rfl)) [[],[],[(21,1)],[(20,0),(22,2)],[(23,3)],[],[],[(26,6)],[(25,5),(27,7)],[(28,8)],[],[],[(30,10),(31,11)],[(32,12)],[(33,13)],[],[],[(35,15),(36,16)],[(37,17)],[(38,18)],[(34,14),(39,19)],[(40,20)],[(29,9),(41,21)],[(24,4),(42,22)]] [[],[],[1],[0,1,2],[0,1,2,3],[0,1,2,3,4],[0,1,2,3,4],[0,1,2,3,4,6],[0,1,2,3,4,5,6,7],[0,1,2,3,4,5,6,7,8],[0,1,2,3,4,5,6,7,8,9],[0,1,2,3,4,5,6,7,8,9],[0,1,2,3,4,5,6,7,8,9,10,11],[0,1,2,3,4,5,6,7,8,9,10,11,12],[0,1,2,3,4,5,6,7,8,9,10,11,12,13],[0,1,2,3,4,5,6,7,8,9],[0,1,2,3,4,5,6,7,8,9],[0,1,2,3,4,5,6,7,8,9,15,16],[0,1,2,3,4,5,6,7,8,9,15,16,17],[0,1,2,3,4,5,6,7,8,9,15,16,17,18],[0,1,2,3,4,5,6,7,8,9,10,11,12,13,14,15,16,17,18,19],[0,1,2,3,4,5,6,7,8,9,10,11,12,13,14,15,16,17,18,19,20],[0,1,2,3,4,5,6,7,8,9,10,11,12,13,14,15,16,17,18,19,20,21],[0,1,2,3,4,5,6,7,8,9,10,11,12,13,14,15,16,17,18,19,20,21,22]] rfl (by kernel_rfl) (by kernel_rfl) (by kernel_rfl) ?_
      refine Xq Qz.move ?_;refine Xq Qz.move ?_;refine Xq Qz.lenN ?_;refine Xq Qz.cmpF ?_;refine Xq Qz.move ?_;refine Xg Qz.move ?_;refine Xg Qz.move ?_;refine Xg Qz.lenN ?_;refine Xg Qz.cmpT ?_;refine Xg Qz.move ?_;refine Xg Qz.move ?_;refine Xg Qz.move ?_;refine Xg Qz.indexN ?_;refine Xg Qz.fldE ?_;refine Xg Qz.loadEf ?_;refine Xg Qz.move ?_;refine Xg Qz.move ?_;refine Xg Qz.indexN ?_;refine Xg Qz.fldE ?_;refine Xg Qz.loadEf ?_;refine Xg (Qz.call (RmCmp_abs (tAt P i).m (tAt Q k).m)) ?_;refine Xg Qz.cmpF ?_;refine Xg Qz.pickT ?_;refine Xq Qz.pickF ?_;refine ⟨_,rfl,?_⟩
      apply AWl.nil;apply AThen.normal;refine AWp.condF (ao rfl) ?_;apply AWp.skip;apply AThen.normal;apply AWp.seq;apply AWp.seq
      refine AWp.dr' (DrawOk.self (by kernel_rfl)) [[],[],[(54,1)],[(53,0),(55,2)],[(56,3)],[],[],[(58,5),(59,6)],[(60,7)],[(61,8)],[],[],[(63,10),(64,11)],[(65,12)],[(66,13)],[(62,9),(67,14)],[(68,15)],[(57,4),(69,16)]] [[],[],[1],[0,1,2],[0,1,2,3],[0,1,2,3,4],[0,1,2,3,4],[0,1,2,3,4,5,6],[0,1,2,3,4,5,6,7],[0,1,2,3,4,5,6,7,8],[0,1,2,3,4],[0,1,2,3,4],[0,1,2,3,4,10,11],[0,1,2,3,4,10,11,12],[0,1,2,3,4,10,11,12,13],[0,1,2,3,4,5,6,7,8,9,10,11,12,13,14],[0,1,2,3,4,5,6,7,8,9,10,11,12,13,14,15],[0,1,2,3,4,5,6,7,8,9,10,11,12,13,14,15,16]] rfl (by kernel_rfl) (by kernel_rfl) (by kernel_rfl) ?_
      refine Xq Qz.move ?_;refine Xq Qz.move ?_;refine Xq Qz.lenN ?_;refine Xq Qz.cmpF ?_;refine Xq Qz.move ?_;refine Xg Qz.move ?_;refine Xg Qz.move ?_;refine Xg Qz.indexN ?_;refine Xg Qz.fldE ?_;refine Xg Qz.loadEf ?_;refine Xg Qz.move ?_;refine Xg Qz.move ?_;refine Xg Qz.indexN ?_;refine Xg Qz.fldE ?_;refine Xg Qz.loadEf ?_;refine Xg (Qz.call (RmCmp_abs (tAt P i).m (tAt Q k).m)) ?_;refine Xg Qz.cmpF ?_;refine Xq Qz.pickF ?_;refine ⟨_,rfl,?_⟩
      apply AWl.nil;apply AThen.normal;refine AWp.condF (ao rfl) ?_;apply AWp.skip;apply AThen.normal;apply AWp.seq
      refine AWp.dr' (DrawOk.self (by kernel_rfl)) [[],[],[(80,0),(81,1)],[(82,2)],[(83,3)],[],[],[(85,5),(86,6)],[(87,7)],[(88,8)],[(84,4),(89,9)],[]] [[],[],[0,1],[0,1,2],[0,1,2,3],[],[],[5,6],[5,6,7],[5,6,7,8],[0,1,2,3,4,5,6,7,8,9],[]] rfl (by kernel_rfl) (by kernel_rfl) (by kernel_rfl) ?_
      refine Xq Qz.move ?_;refine Xq Qz.move ?_;refine Xq Qz.indexN ?_;refine Xq Qz.fldE ?_;refine Xq Qz.ldE ?_;refine Xq Qz.move ?_;refine Xq Qz.move ?_;refine Xq Qz.indexN ?_;refine Xq Qz.fldE ?_;refine Xq Qz.ldE ?_;refine Xq (Qz.call (RAdd_abs (tAt P i).c (tAt Q k).c N M hs ht hNM)) ?_;refine Xn ?_;refine ⟨_,rfl,?_⟩
      refine AWs.stF (ao rfl) (ao rfl) rfl (tab_of rfl) rfl rfl rfl ?_;apply AWl.nil;apply AThen.normal;apply AWp.seq;apply AWp.seq;apply AWp.region;refine Wq Qz.ldD ?_;refine Wq (Qz.call (RSign_abs ((tAt P i).c+(tAt Q k).c))) ?_;refine Wq Qz.cmpF ?_;apply AWl.nil;apply AThen.normal;refine AWp.condF (ao rfl) ?_;apply AWp.skip;apply AThen.normal;apply AWp.seq;apply AWp.region;refine Wq Qz.move ?_;refine Wq Qz.succ ?_;refine Wq Qz.assign ?_;apply AWl.nil;apply AThen.normal;apply AWp.region;refine Wq Qz.move ?_;refine Wq Qz.succ ?_;refine Wq Qz.assign ?_;apply AWl.nil;apply ABlock.normal
      refine ALoop.next ((P.length - (i+1))+(Q.length - (k+1))) (by omega) ⟨i+1,k+1,R,by omega,by omega,?_,by omega,rfl,rfl⟩ ?_
      ·rw [mrg_eq hc,if_pos hz] at heq
       exact heq
      ·exact AS.le_of (by refine FrLe.cons rfl (AVle.d rfl) ?_;refine FrLe.cons rfl (AVle.d rfl) ?_;refine FrLe.cons rfl (AVle.own rfl) ?_;refine FrLe.cons rfl (AVle.d rfl) ?_;refine FrLe.cons rfl (AVle.d rfl) ?_;exact FrLe.nil) (by refine HpLe.cons (OwLe.row rfl) ?_;exact HpLe.nil)
     ·have hsg:((tAt P i).c+(tAt Q k).c).num.sign ≠ 0:=fun e=>hz (num_sign0.1 e)
      apply AWp.seq;apply AWp.seq;apply AWp.region;refine Wq Qz.move ?_;refine Wq Qz.move ?_;refine Wq Qz.lenN ?_;refine Wq Qz.cmpT ?_;refine Wq Qz.move ?_;refine Ws ?_;refine Ws ?_;refine Ws ?_;refine Ws ?_;refine Wq Qz.pickT ?_;apply AWl.nil;apply AThen.normal;refine AWp.condT (ao rfl) ?_;apply AWp.skip;apply AThen.normal;apply AWp.block;apply AWp.seq;apply AWp.seq
      refine AWp.dr' (DrawOk.self (by kernel_rfl)) [[],[],[(21,1)],[(20,0),(22,2)],[(23,3)],[],[],[(26,6)],[(25,5),(27,7)],[(28,8)],[],[],[(30,10),(31,11)],[(32,12)],[(33,13)],[],[],[(35,15),(36,16)],[(37,17)],[(38,18)],[(34,14),(39,19)],[(40,20)],[(29,9),(41,21)],[(24,4),(42,22)]] [[],[],[1],[0,1,2],[0,1,2,3],[0,1,2,3,4],[0,1,2,3,4],[0,1,2,3,4,6],[0,1,2,3,4,5,6,7],[0,1,2,3,4,5,6,7,8],[0,1,2,3,4,5,6,7,8,9],[0,1,2,3,4,5,6,7,8,9],[0,1,2,3,4,5,6,7,8,9,10,11],[0,1,2,3,4,5,6,7,8,9,10,11,12],[0,1,2,3,4,5,6,7,8,9,10,11,12,13],[0,1,2,3,4,5,6,7,8,9],[0,1,2,3,4,5,6,7,8,9],[0,1,2,3,4,5,6,7,8,9,15,16],[0,1,2,3,4,5,6,7,8,9,15,16,17],[0,1,2,3,4,5,6,7,8,9,15,16,17,18],[0,1,2,3,4,5,6,7,8,9,10,11,12,13,14,15,16,17,18,19],[0,1,2,3,4,5,6,7,8,9,10,11,12,13,14,15,16,17,18,19,20],[0,1,2,3,4,5,6,7,8,9,10,11,12,13,14,15,16,17,18,19,20,21],[0,1,2,3,4,5,6,7,8,9,10,11,12,13,14,15,16,17,18,19,20,21,22]] rfl (by kernel_rfl) (by kernel_rfl) (by kernel_rfl) ?_
      refine Xq Qz.move ?_;refine Xq Qz.move ?_;refine Xq Qz.lenN ?_;refine Xq Qz.cmpF ?_;refine Xq Qz.move ?_;refine Xg Qz.move ?_;refine Xg Qz.move ?_;refine Xg Qz.lenN ?_;refine Xg Qz.cmpT ?_;refine Xg Qz.move ?_;refine Xg Qz.move ?_;refine Xg Qz.move ?_;refine Xg Qz.indexN ?_;refine Xg Qz.fldE ?_;refine Xg Qz.loadEf ?_;refine Xg Qz.move ?_;refine Xg Qz.move ?_;refine Xg Qz.indexN ?_;refine Xg Qz.fldE ?_;refine Xg Qz.loadEf ?_;refine Xg (Qz.call (RmCmp_abs (tAt P i).m (tAt Q k).m)) ?_;refine Xg Qz.cmpF ?_;refine Xg Qz.pickT ?_;refine Xq Qz.pickF ?_;refine ⟨_,rfl,?_⟩
      apply AWl.nil;apply AThen.normal;refine AWp.condF (ao rfl) ?_;apply AWp.skip;apply AThen.normal;apply AWp.seq;apply AWp.seq
      refine AWp.dr' (DrawOk.self (by kernel_rfl)) [[],[],[(54,1)],[(53,0),(55,2)],[(56,3)],[],[],[(58,5),(59,6)],[(60,7)],[(61,8)],[],[],[(63,10),(64,11)],[(65,12)],[(66,13)],[(62,9),(67,14)],[(68,15)],[(57,4),(69,16)]] [[],[],[1],[0,1,2],[0,1,2,3],[0,1,2,3,4],[0,1,2,3,4],[0,1,2,3,4,5,6],[0,1,2,3,4,5,6,7],[0,1,2,3,4,5,6,7,8],[0,1,2,3,4],[0,1,2,3,4],[0,1,2,3,4,10,11],[0,1,2,3,4,10,11,12],[0,1,2,3,4,10,11,12,13],[0,1,2,3,4,5,6,7,8,9,10,11,12,13,14],[0,1,2,3,4,5,6,7,8,9,10,11,12,13,14,15],[0,1,2,3,4,5,6,7,8,9,10,11,12,13,14,15,16]] rfl (by kernel_rfl) (by kernel_rfl) (by kernel_rfl) ?_
      refine Xq Qz.move ?_;refine Xq Qz.move ?_;refine Xq Qz.lenN ?_;refine Xq Qz.cmpF ?_;refine Xq Qz.move ?_;refine Xg Qz.move ?_;refine Xg Qz.move ?_;refine Xg Qz.indexN ?_;refine Xg Qz.fldE ?_;refine Xg Qz.loadEf ?_;refine Xg Qz.move ?_;refine Xg Qz.move ?_;refine Xg Qz.indexN ?_;refine Xg Qz.fldE ?_;refine Xg Qz.loadEf ?_;refine Xg (Qz.call (RmCmp_abs (tAt P i).m (tAt Q k).m)) ?_;refine Xg Qz.cmpF ?_;refine Xq Qz.pickF ?_;refine ⟨_,rfl,?_⟩
      apply AWl.nil;apply AThen.normal;refine AWp.condF (ao rfl) ?_;apply AWp.skip;apply AThen.normal;apply AWp.seq
      refine AWp.dr' (DrawOk.self (by kernel_rfl)) [[],[],[(80,0),(81,1)],[(82,2)],[(83,3)],[],[],[(85,5),(86,6)],[(87,7)],[(88,8)],[(84,4),(89,9)],[]] [[],[],[0,1],[0,1,2],[0,1,2,3],[],[],[5,6],[5,6,7],[5,6,7,8],[0,1,2,3,4,5,6,7,8,9],[]] rfl (by kernel_rfl) (by kernel_rfl) (by kernel_rfl) ?_
      refine Xq Qz.move ?_;refine Xq Qz.move ?_;refine Xq Qz.indexN ?_;refine Xq Qz.fldE ?_;refine Xq Qz.ldE ?_;refine Xq Qz.move ?_;refine Xq Qz.move ?_;refine Xq Qz.indexN ?_;refine Xq Qz.fldE ?_;refine Xq Qz.ldE ?_;refine Xq (Qz.call (RAdd_abs (tAt P i).c (tAt Q k).c N M hs ht hNM)) ?_;refine Xn ?_;refine ⟨_,rfl,?_⟩
      refine AWs.stF (ao rfl) (ao rfl) rfl (tab_of rfl) rfl rfl rfl ?_;apply AWl.nil;apply AThen.normal;apply AWp.seq;apply AWp.seq;apply AWp.region;refine Wq Qz.ldD ?_;refine Wq (Qz.call (RSign_abs ((tAt P i).c+(tAt Q k).c))) ?_;refine Wq Qz.cmpT ?_;apply AWl.nil;apply AThen.normal;refine AWp.condT (ao rfl) ?_
      refine AWp.dr' (DrawOk.self (by kernel_rfl)) [[],[],[],[],[(96,2),(97,3)],[(98,4)],[(99,5)],[(95,1),(100,6)],[(101,7)]] [[],[],[],[],[2,3],[2,3,4],[2,3,4,5],[1,2,3,4,5,6],[1,2,3,4,5,6,7]] rfl (by kernel_rfl) (by kernel_rfl) (by kernel_rfl) ?_
      refine Xq Qz.move ?_;refine Xq Qz.ldD ?_;refine Xq Qz.move ?_;refine Xq Qz.move ?_;refine Xq Qz.indexN ?_;refine Xq Qz.fldE ?_;refine Xq Qz.loadEf ?_;(refine Hq rfl ?_;refine Bq.build (tab_of rfl) rfl rfl rfl ?_;(repeat ((first | refine ⟨_,PartOk.ag (ah rfl),?_⟩ | refine ⟨_,PartOk.one rfl (by first | exact One.ex_ rfl | exact One.sl | exact One.ep),?_⟩);refine ⟨_,rfl,?_⟩));refine ⟨_,rfl,?_⟩;refine ⟨_,rfl,?_⟩);(refine ⟨_,HStep.q rfl (Bq.slice1 (ah rfl) (tab_of rfl) (tab_of rfl) rfl rfl rfl rfl rfl),?_⟩;refine ⟨_,rfl,?_⟩);refine ⟨_,rfl,?_⟩
      (refine AWs.app (ao rfl) rfl rfl (tab_of rfl) (tab_of rfl) rfl rfl (by simp;omega) (by simp;omega) rfl (by first | ((repeat (first | exact PlainHp.nil | refine PlainHp.var ?_ | refine PlainHp.row ?_ | refine PlainHp.dead ?_));done) | fail) rfl ?_);refine Wq Qz.assign ?_;apply AWl.nil;apply AThen.normal;apply AWp.seq;apply AWp.region;refine Wq Qz.move ?_;refine Wq Qz.succ ?_;refine Wq Qz.assign ?_;apply AWl.nil;apply AThen.normal;apply AWp.region;refine Wq Qz.move ?_;refine Wq Qz.succ ?_;refine Wq Qz.assign ?_;apply AWl.nil;apply ABlock.normal
      refine ALoop.next ((P.length - (i+1))+(Q.length - (k+1))) (by omega) ⟨i+1,k+1,R ++ [⟨(tAt P i).c+(tAt Q k).c,(tAt P i).m⟩],by omega,by omega,?_,by simp;omega,rfl,rfl⟩ ?_
      ·rw [mrg_eq hc,if_neg hz] at heq
       rw [← heq];simp
      ·exact AS.le_of (by refine FrLe.cons rfl (AVle.d rfl) ?_;refine FrLe.cons rfl (AVle.d rfl) ?_;refine FrLe.cons rfl (AVle.own rfl) ?_;refine FrLe.cons rfl (AVle.d rfl) ?_;refine FrLe.cons rfl (AVle.d rfl) ?_;exact FrLe.nil) (by refine HpLe.cons (OwLe.row (map_snoc tmC R ⟨(tAt P i).c+(tAt Q k).c,(tAt P i).m⟩)) ?_;exact HpLe.nil)
    ·have hc' : lex8 (tAt P i).m (tAt Q k).m = 1 := by rw [← lx_lex]; exact hc
     apply AWp.seq;apply AWp.seq;apply AWp.region;refine Wq Qz.move ?_;refine Wq Qz.move ?_;refine Wq Qz.lenN ?_;refine Wq Qz.cmpT ?_;refine Wq Qz.move ?_;refine Ws ?_;refine Ws ?_;refine Ws ?_;refine Ws ?_;refine Wq Qz.pickT ?_;apply AWl.nil;apply AThen.normal;refine AWp.condT (ao rfl) ?_;apply AWp.skip;apply AThen.normal;apply AWp.block;apply AWp.seq;apply AWp.seq
     refine AWp.dr' (DrawOk.self (by kernel_rfl)) [[],[],[(21,1)],[(20,0),(22,2)],[(23,3)],[],[],[(26,6)],[(25,5),(27,7)],[(28,8)],[],[],[(30,10),(31,11)],[(32,12)],[(33,13)],[],[],[(35,15),(36,16)],[(37,17)],[(38,18)],[(34,14),(39,19)],[(40,20)],[(29,9),(41,21)],[(24,4),(42,22)]] [[],[],[1],[0,1,2],[0,1,2,3],[0,1,2,3,4],[0,1,2,3,4],[0,1,2,3,4,6],[0,1,2,3,4,5,6,7],[0,1,2,3,4,5,6,7,8],[0,1,2,3,4,5,6,7,8,9],[0,1,2,3,4,5,6,7,8,9],[0,1,2,3,4,5,6,7,8,9,10,11],[0,1,2,3,4,5,6,7,8,9,10,11,12],[0,1,2,3,4,5,6,7,8,9,10,11,12,13],[0,1,2,3,4,5,6,7,8,9],[0,1,2,3,4,5,6,7,8,9],[0,1,2,3,4,5,6,7,8,9,15,16],[0,1,2,3,4,5,6,7,8,9,15,16,17],[0,1,2,3,4,5,6,7,8,9,15,16,17,18],[0,1,2,3,4,5,6,7,8,9,10,11,12,13,14,15,16,17,18,19],[0,1,2,3,4,5,6,7,8,9,10,11,12,13,14,15,16,17,18,19,20],[0,1,2,3,4,5,6,7,8,9,10,11,12,13,14,15,16,17,18,19,20,21],[0,1,2,3,4,5,6,7,8,9,10,11,12,13,14,15,16,17,18,19,20,21,22]] rfl (by kernel_rfl) (by kernel_rfl) (by kernel_rfl) ?_
     refine Xq Qz.move ?_;refine Xq Qz.move ?_;refine Xq Qz.lenN ?_;refine Xq Qz.cmpF ?_;refine Xq Qz.move ?_;refine Xg Qz.move ?_;refine Xg Qz.move ?_;refine Xg Qz.lenN ?_;refine Xg Qz.cmpT ?_;refine Xg Qz.move ?_;refine Xg Qz.move ?_;refine Xg Qz.move ?_;refine Xg Qz.indexN ?_;refine Xg Qz.fldE ?_;refine Xg Qz.loadEf ?_;refine Xg Qz.move ?_;refine Xg Qz.move ?_;refine Xg Qz.indexN ?_;refine Xg Qz.fldE ?_;refine Xg Qz.loadEf ?_;refine Xg (Qz.call (RmCmp_abs (tAt P i).m (tAt Q k).m)) ?_;refine Xg Qz.cmpT ?_;refine Xg Qz.pickT ?_;refine Xq Qz.pickF ?_;refine ⟨_,rfl,?_⟩
     apply AWl.nil;apply AThen.normal;refine AWp.condT (ao rfl) ?_;apply AWp.seq;apply AWp.region;refine Wq Qz.move ?_;refine Wq Qz.move ?_;refine Wq Qz.move ?_;refine Wq Qz.indexN ?_;refine Wq Qz.loadEf ?_;(refine AWs.q rfl rfl ?_;refine ⟨_,Bq.slice1 (ao rfl) (tab_of rfl) (tab_of rfl) rfl rfl rfl rfl rfl,?_⟩);(refine AWs.app (ao rfl) rfl rfl (tab_of rfl) (tab_of rfl) rfl rfl (by simp;omega) (by simp;omega) rfl (by first | ((repeat (first | exact PlainHp.nil | refine PlainHp.var ?_ | refine PlainHp.row ?_ | refine PlainHp.dead ?_));done) | fail) rfl ?_);refine Wq Qz.assign ?_;apply AWl.nil;apply AThen.normal;apply AWp.seq;apply AWp.region;refine Wq Qz.move ?_;refine Wq Qz.succ ?_;refine Wq Qz.assign ?_;apply AWl.nil;apply AThen.normal;apply AWp.exit;apply AThen.exit;apply ABlock.hit
     refine ALoop.next ((P.length - (i+1))+(Q.length - k)) (by omega) ⟨i+1,k,R ++ [tAt P i],by omega,by omega,?_,by simp;omega,rfl,rfl⟩ ?_
     ·rw [mrg_gt hc] at heq
      rw [← heq,hdQ];simp
     ·exact AS.le_of (by refine FrLe.cons rfl (AVle.d rfl) ?_;refine FrLe.cons rfl (AVle.d rfl) ?_;refine FrLe.cons rfl (AVle.own rfl) ?_;refine FrLe.cons rfl (AVle.d rfl) ?_;refine FrLe.cons rfl (AVle.d rfl) ?_;exact FrLe.nil) (by refine HpLe.cons (OwLe.row (map_snoc tmC R (tAt P i))) ?_;exact HpLe.nil)
   ·apply AWp.seq;apply AWp.seq;apply AWp.region;refine Wq Qz.move ?_;refine Wq Qz.move ?_;refine Wq Qz.lenN ?_;refine Wq Qz.cmpT ?_;refine Wq Qz.move ?_;refine Ws ?_;refine Ws ?_;refine Ws ?_;refine Ws ?_;refine Wq Qz.pickT ?_;apply AWl.nil;apply AThen.normal;refine AWp.condT (ao rfl) ?_;apply AWp.skip;apply AThen.normal;apply AWp.block;apply AWp.seq;apply AWp.seq
    refine AWp.dr' (DrawOk.self (by kernel_rfl)) [[],[],[(21,1)],[(20,0),(22,2)],[(23,3)],[],[],[(26,6)],[(25,5),(27,7)],[(28,8)],[],[],[(30,10),(31,11)],[(32,12)],[(33,13)],[],[],[(35,15),(36,16)],[(37,17)],[(38,18)],[(34,14),(39,19)],[(40,20)],[(29,9),(41,21)],[(24,4),(42,22)]] [[],[],[1],[0,1,2],[0,1,2,3],[0,1,2,3,4],[0,1,2,3,4],[0,1,2,3,4,6],[0,1,2,3,4,5,6,7],[0,1,2,3,4,5,6,7,8],[0,1,2,3,4,5,6,7,8,9],[0,1,2,3,4,5,6,7,8,9],[0,1,2,3,4,5,6,7,8,9,10,11],[0,1,2,3,4,5,6,7,8,9,10,11,12],[0,1,2,3,4,5,6,7,8,9,10,11,12,13],[0,1,2,3,4,5,6,7,8,9],[0,1,2,3,4,5,6,7,8,9],[0,1,2,3,4,5,6,7,8,9,15,16],[0,1,2,3,4,5,6,7,8,9,15,16,17],[0,1,2,3,4,5,6,7,8,9,15,16,17,18],[0,1,2,3,4,5,6,7,8,9,10,11,12,13,14,15,16,17,18,19],[0,1,2,3,4,5,6,7,8,9,10,11,12,13,14,15,16,17,18,19,20],[0,1,2,3,4,5,6,7,8,9,10,11,12,13,14,15,16,17,18,19,20,21],[0,1,2,3,4,5,6,7,8,9,10,11,12,13,14,15,16,17,18,19,20,21,22]] rfl (by kernel_rfl) (by kernel_rfl) (by kernel_rfl) ?_
    refine Xq Qz.move ?_;refine Xq Qz.move ?_;refine Xq Qz.lenN ?_;refine Xq Qz.cmpT ?_;refine Xq Qz.move ?_;refine Xs ?_;refine Xs ?_;refine Xs ?_;refine Xs ?_;refine Xs ?_;refine Xs ?_;refine Xs ?_;refine Xs ?_;refine Xs ?_;refine Xs ?_;refine Xs ?_;refine Xs ?_;refine Xs ?_;refine Xs ?_;refine Xs ?_;refine Xs ?_;refine Xs ?_;refine Xs ?_;refine Xq Qz.pickT ?_;refine ⟨_,rfl,?_⟩
    apply AWl.nil;apply AThen.normal;refine AWp.condT (ao rfl) ?_;apply AWp.seq;apply AWp.region;refine Wq Qz.move ?_;refine Wq Qz.move ?_;refine Wq Qz.move ?_;refine Wq Qz.indexN ?_;refine Wq Qz.loadEf ?_;(refine AWs.q rfl rfl ?_;refine ⟨_,Bq.slice1 (ao rfl) (tab_of rfl) (tab_of rfl) rfl rfl rfl rfl rfl,?_⟩);(refine AWs.app (ao rfl) rfl rfl (tab_of rfl) (tab_of rfl) rfl rfl (by simp;omega) (by simp;omega) rfl (by first | ((repeat (first | exact PlainHp.nil | refine PlainHp.var ?_ | refine PlainHp.row ?_ | refine PlainHp.dead ?_));done) | fail) rfl ?_);refine Wq Qz.assign ?_;apply AWl.nil;apply AThen.normal;apply AWp.seq;apply AWp.region;refine Wq Qz.move ?_;refine Wq Qz.succ ?_;refine Wq Qz.assign ?_;apply AWl.nil;apply AThen.normal;apply AWp.exit;apply AThen.exit;apply ABlock.hit
    refine ALoop.next ((P.length - (i+1))+(Q.length - k)) (by omega) ⟨i+1,k,R ++ [tAt P i],by omega,by omega,?_,by simp;omega,rfl,rfl⟩ ?_
    ·have hq : Q.drop k = [] := List.drop_eq_nil_of_le (by omega)
     rw [hdP,hq,mrg_nil] at heq
     rw [← heq,hq,mrg_nil];simp
    ·exact AS.le_of (by refine FrLe.cons rfl (AVle.d rfl) ?_;refine FrLe.cons rfl (AVle.d rfl) ?_;refine FrLe.cons rfl (AVle.own rfl) ?_;refine FrLe.cons rfl (AVle.d rfl) ?_;refine FrLe.cons rfl (AVle.d rfl) ?_;exact FrLe.nil) (by refine HpLe.cons (OwLe.row (map_snoc tmC R (tAt P i))) ?_;exact HpLe.nil)
  ·have hp : P.drop i = [] := List.drop_eq_nil_of_le (by omega)
   by_cases hkq:k<Q.length
   ·have hdQ:=drop_tAt hkq
    apply AWp.seq;apply AWp.seq;apply AWp.region;refine Wq Qz.move ?_;refine Wq Qz.move ?_;refine Wq Qz.lenN ?_;refine Wq Qz.cmpF ?_;refine Wq Qz.move ?_;refine Wg Qz.move ?_;refine Wg Qz.move ?_;refine Wg Qz.lenN ?_;refine Wg Qz.cmpT ?_;refine Wq Qz.pickF ?_;apply AWl.nil;apply AThen.normal;refine AWp.condT (ao rfl) ?_;apply AWp.skip;apply AThen.normal;apply AWp.block;apply AWp.seq;apply AWp.seq
    refine AWp.dr' (DrawOk.self (by kernel_rfl)) [[],[],[(21,1)],[(20,0),(22,2)],[(23,3)],[],[],[(26,6)],[(25,5),(27,7)],[(28,8)],[],[],[(30,10),(31,11)],[(32,12)],[(33,13)],[],[],[(35,15),(36,16)],[(37,17)],[(38,18)],[(34,14),(39,19)],[(40,20)],[(29,9),(41,21)],[(24,4),(42,22)]] [[],[],[1],[0,1,2],[0,1,2,3],[0,1,2,3,4],[0,1,2,3,4],[0,1,2,3,4,6],[0,1,2,3,4,5,6,7],[0,1,2,3,4,5,6,7,8],[0,1,2,3,4,5,6,7,8,9],[0,1,2,3,4,5,6,7,8,9],[0,1,2,3,4,5,6,7,8,9,10,11],[0,1,2,3,4,5,6,7,8,9,10,11,12],[0,1,2,3,4,5,6,7,8,9,10,11,12,13],[0,1,2,3,4,5,6,7,8,9],[0,1,2,3,4,5,6,7,8,9],[0,1,2,3,4,5,6,7,8,9,15,16],[0,1,2,3,4,5,6,7,8,9,15,16,17],[0,1,2,3,4,5,6,7,8,9,15,16,17,18],[0,1,2,3,4,5,6,7,8,9,10,11,12,13,14,15,16,17,18,19],[0,1,2,3,4,5,6,7,8,9,10,11,12,13,14,15,16,17,18,19,20],[0,1,2,3,4,5,6,7,8,9,10,11,12,13,14,15,16,17,18,19,20,21],[0,1,2,3,4,5,6,7,8,9,10,11,12,13,14,15,16,17,18,19,20,21,22]] rfl (by kernel_rfl) (by kernel_rfl) (by kernel_rfl) ?_
    refine Xq Qz.move ?_;refine Xq Qz.move ?_;refine Xq Qz.lenN ?_;refine Xq Qz.cmpF ?_;refine Xq Qz.move ?_;refine Xg Qz.move ?_;refine Xg Qz.move ?_;refine Xg Qz.lenN ?_;refine Xg Qz.cmpF ?_;refine Xg Qz.move ?_;refine Xs ?_;refine Xs ?_;refine Xs ?_;refine Xs ?_;refine Xs ?_;refine Xs ?_;refine Xs ?_;refine Xs ?_;refine Xs ?_;refine Xs ?_;refine Xs ?_;refine Xs ?_;refine Xg Qz.pickF ?_;refine Xq Qz.pickF ?_;refine ⟨_,rfl,?_⟩
    apply AWl.nil;apply AThen.normal;refine AWp.condF (ao rfl) ?_;apply AWp.skip;apply AThen.normal;apply AWp.seq;apply AWp.seq
    refine AWp.dr' (DrawOk.self (by kernel_rfl)) [[],[],[(54,1)],[(53,0),(55,2)],[(56,3)],[],[],[(58,5),(59,6)],[(60,7)],[(61,8)],[],[],[(63,10),(64,11)],[(65,12)],[(66,13)],[(62,9),(67,14)],[(68,15)],[(57,4),(69,16)]] [[],[],[1],[0,1,2],[0,1,2,3],[0,1,2,3,4],[0,1,2,3,4],[0,1,2,3,4,5,6],[0,1,2,3,4,5,6,7],[0,1,2,3,4,5,6,7,8],[0,1,2,3,4],[0,1,2,3,4],[0,1,2,3,4,10,11],[0,1,2,3,4,10,11,12],[0,1,2,3,4,10,11,12,13],[0,1,2,3,4,5,6,7,8,9,10,11,12,13,14],[0,1,2,3,4,5,6,7,8,9,10,11,12,13,14,15],[0,1,2,3,4,5,6,7,8,9,10,11,12,13,14,15,16]] rfl (by kernel_rfl) (by kernel_rfl) (by kernel_rfl) ?_
    refine Xq Qz.move ?_;refine Xq Qz.move ?_;refine Xq Qz.lenN ?_;refine Xq Qz.cmpT ?_;refine Xq Qz.move ?_;refine Xs ?_;refine Xs ?_;refine Xs ?_;refine Xs ?_;refine Xs ?_;refine Xs ?_;refine Xs ?_;refine Xs ?_;refine Xs ?_;refine Xs ?_;refine Xs ?_;refine Xs ?_;refine Xq Qz.pickT ?_;refine ⟨_,rfl,?_⟩
    apply AWl.nil;apply AThen.normal;refine AWp.condT (ao rfl) ?_;apply AWp.seq;apply AWp.region;refine Wq Qz.move ?_;refine Wq Qz.move ?_;refine Wq Qz.move ?_;refine Wq Qz.indexN ?_;refine Wq Qz.loadEf ?_;(refine AWs.q rfl rfl ?_;refine ⟨_,Bq.slice1 (ao rfl) (tab_of rfl) (tab_of rfl) rfl rfl rfl rfl rfl,?_⟩);(refine AWs.app (ao rfl) rfl rfl (tab_of rfl) (tab_of rfl) rfl rfl (by simp;omega) (by simp;omega) rfl (by first | ((repeat (first | exact PlainHp.nil | refine PlainHp.var ?_ | refine PlainHp.row ?_ | refine PlainHp.dead ?_));done) | fail) rfl ?_);refine Wq Qz.assign ?_;apply AWl.nil;apply AThen.normal;apply AWp.seq;apply AWp.region;refine Wq Qz.move ?_;refine Wq Qz.succ ?_;refine Wq Qz.assign ?_;apply AWl.nil;apply AThen.normal;apply AWp.exit;apply AThen.exit;apply ABlock.hit
    refine ALoop.next ((P.length - i)+(Q.length - (k+1))) (by omega) ⟨i,k+1,R ++ [tAt Q k],by omega,by omega,?_,by simp;omega,rfl,rfl⟩ ?_
    ·rw [hdQ,hp,nil_mrg] at heq
     rw [← heq,hp,nil_mrg];simp
    ·exact AS.le_of (by refine FrLe.cons rfl (AVle.d rfl) ?_;refine FrLe.cons rfl (AVle.d rfl) ?_;refine FrLe.cons rfl (AVle.own rfl) ?_;refine FrLe.cons rfl (AVle.d rfl) ?_;refine FrLe.cons rfl (AVle.d rfl) ?_;exact FrLe.nil) (by refine HpLe.cons (OwLe.row (map_snoc tmC R (tAt Q k))) ?_;exact HpLe.nil)
   ·apply AWp.seq;apply AWp.seq;apply AWp.region;refine Wq Qz.move ?_;refine Wq Qz.move ?_;refine Wq Qz.lenN ?_;refine Wq Qz.cmpF ?_;refine Wq Qz.move ?_;refine Wg Qz.move ?_;refine Wg Qz.move ?_;refine Wg Qz.lenN ?_;refine Wg Qz.cmpF ?_;refine Wq Qz.pickF ?_;apply AWl.nil;apply AThen.normal;refine AWp.condF (ao rfl) ?_;apply AWp.exit;apply AThen.exit;apply ALoop.exit;apply ABlock.hit;apply AThen.normal;apply AWp.seq;apply AWp.region;refine Wq Qz.move ?_;refine Wq Qz.assign ?_;apply AWl.nil;apply AThen.normal;apply AWp.ret
    have hq:Q.drop k = []:=List.drop_eq_nil_of_le (by omega)
    exact Fin.ret (Rets.of1 (ResV.tmp rfl rfl) (D.le.of_eq (by rw [← heq,hp,hq,nil_mrg,List.append_nil];rfl)))
end Go.Proofs.YteicdddphdomkaaGreat
namespace Go.Proofs.YteicdddphdomkaaGreat
open Go.RowKit
set_option maxRecDepth 100000
theorem RTimes0_abs (c : Rat) (m:Nat→Int) (P:List Tm) (hc:c = 0):Abs Tryz.prog 52 [agD (ratC c),agD (monC m),polD P] (tupD [polD [],ex (.int .i64 0)]):=by
 have hs:=num_sign0.2 hc
 refine Abs.intro Tryz.func52 rfl (callFunc_run Tryz.func52 (by kernel_rfl) (by kernel_rfl)) rfl fun s0=>?_
 rw [Tryz.ntmps52]
 apply AWp.seq;apply AWp.region;refine AWs.bx (ao rfl) rfl rfl rfl rfl ?_;refine AWs.bx (ao rfl) rfl rfl rfl rfl ?_;refine Wq Qz.assign ?_;refine Wq Qz.assign ?_;apply AWl.nil;apply AThen.normal;apply AWp.seq;apply AWp.region;refine AWs.b0 (tab_of rfl) (tab_of rfl) rfl rfl rfl rfl rfl ?_;refine Wq Qz.assign ?_;apply AWl.nil;apply AThen.normal;apply AWp.seq;apply AWp.seq;apply AWp.region;refine Wq Qz.ldD ?_;refine Wq (Qz.call (RSign_abs c)) ?_;refine Wq Qz.cmpT ?_;apply AWl.nil;apply AThen.normal;refine AWp.condT (ao rfl) ?_;apply AWp.seq;apply AWp.region;refine Wq Qz.assign ?_;refine Wq Qz.assign ?_;apply AWl.nil;apply AThen.normal;apply AWp.ret;apply AThen.ret
 exact Fin.ret (Rets.of2 (ResV.tmp rfl rfl) (ResV.tmp rfl rfl) (D.le.tup2 (D.le_nilP) (D.le.refl _)))
theorem RTimes_abs (c : Rat) (m:Nat→Int) (P:List Tm) (N M:Nat) (hc:c ≠ 0) (hcs:RSz c N) (hm:In8 m 0 65535) (hP:PSz P M) (hPi:PIn P 0 65535) (hmP:∀ t∈P,In8 (add8 m t.m) 0 65535) (hn:P.length≤100000) (hNM:N+M≤4398046511103):Abs Tryz.prog 52 [agD (ratC c),agD (monC m),polD P] (tupD [polD (tms c m P),ex (.int .i64 0)]):=by
 have hs:c.num.sign ≠ 0:=fun e=>hc (num_sign0.1 e)
 refine Abs.intro Tryz.func52 rfl (callFunc_run Tryz.func52 (by kernel_rfl) (by kernel_rfl)) rfl fun s0=>?_
 rw [Tryz.ntmps52]
 apply AWp.seq;apply AWp.region;refine AWs.bx (ao rfl) rfl rfl rfl rfl ?_;refine AWs.bx (ao rfl) rfl rfl rfl rfl ?_;refine Wq Qz.assign ?_;refine Wq Qz.assign ?_;apply AWl.nil;apply AThen.normal;apply AWp.seq;apply AWp.region;refine AWs.b0 (tab_of rfl) (tab_of rfl) rfl rfl rfl rfl rfl ?_;refine Wq Qz.assign ?_;apply AWl.nil;apply AThen.normal;apply AWp.seq;apply AWp.seq;apply AWp.region;refine Wq Qz.ldD ?_;refine Wq (Qz.call (RSign_abs c)) ?_;refine Wq Qz.cmpF ?_;apply AWl.nil;apply AThen.normal;refine AWp.condF (ao rfl) ?_;apply AWp.skip;apply AThen.normal;apply AWp.seq;apply AWp.seq;apply AWp.region;refine Wq Qz.assign ?_;apply AWl.nil;apply AThen.normal;apply AWp.block
 refine AWp.loop (fun mz σ=>∃ k,k≤P.length∧mz = P.length - k∧σ = ⟨[(2,.d (polD P)),(3,.ptr 0 0),(4,.ptr 1 0),(8,.own 2),(9,.d (ex (.int .i64 (k:Nat))))],[.var 29 ((ratC c).map .d),.var 31 ((monC m).map .d),.row 33 12 ((tms c m (P.take k)).map tmC)]⟩) ?le ⟨0,by omega,rfl,rfl⟩ ?round
 case le=>exact AS.le_of (by refine FrLe.cons rfl (AVle.d rfl) ?_;refine FrLe.cons rfl (AVle.ptr rfl) ?_;refine FrLe.cons rfl (AVle.ptr rfl) ?_;refine FrLe.cons rfl (AVle.own rfl) ?_;refine FrLe.cons rfl (AVle.d rfl) ?_;exact FrLe.nil) (by refine HpLe.cons (OwLe.varD rfl) ?_;refine HpLe.cons (OwLe.varD rfl) ?_;refine HpLe.cons (OwLe.row rfl) ?_;exact HpLe.nil)
 case round =>
  rintro mz _ ⟨k,hk,rfl,rfl⟩
  by_cases hlt:k<P.length
  ·have ht:=tAt_mem hlt
   have htk:=take_tAt hlt
   apply AWp.seq;apply AWp.seq;apply AWp.region;refine Wq Qz.move ?_;refine Wq Qz.move ?_;refine Wq Qz.lenN ?_;refine Wq Qz.cmpT ?_;apply AWl.nil;apply AThen.normal;refine AWp.condT (ao rfl) ?_;apply AWp.skip;apply AThen.normal;apply AWp.seq;apply AWp.block;apply AWp.seq
   refine AWp.dr' (DrawOk.float (e:=9) (by kernel_rfl) (AddE.keep (AddE.keep (AddE.keep (AddE.keep (AddE.keep (AddE.keep (AddE.keep (AddE.keep (AddE.keep (AddE.keep (AddE.keep (AddE.add (AddE.keep AddE.nil))))))))))))) (by kernel_rfl)) [[],[],[],[(24,1),(25,2)],[(26,3)],[(27,4)],[(23,0),(28,5)],[(29,6)],[(22,7)],[(22,7)],[]] [[],[],[],[1,2],[1,2,3],[1,2,3,4],[0,1,2,3,4,5],[0,1,2,3,4,5,6],[0,1,2,3,4,5,6,7],[0,1,2,3,4,5,6,7],[]] rfl (by kernel_rfl) (by kernel_rfl) (by kernel_rfl) ?_
   refine Xq Qz.ldD ?_;refine Xq Qz.move ?_;refine Xq Qz.move ?_;refine Xq Qz.indexN ?_;refine Xq Qz.fldE ?_;refine Xq Qz.loadEf ?_;refine Xq (Qz.call (RmMul_abs m (tAt P k).m hm (hPi _ ht) (hmP _ ht))) ?_;refine Xq Qz.move ?_;refine Xq Qz.ext ?_;refine Xq Qz.ext ?_;refine Xn ?_;refine ⟨_,rfl,?_⟩
   refine AWs.stF (ao rfl) (ao rfl) rfl (tab_of rfl) rfl rfl rfl ?_;refine Wq Qz.assign ?_;apply AWl.nil;apply OnlyN.mk';apply AThen.normal;apply AWp.seq;apply AWp.seq;apply AWp.region;refine Wq Qz.move ?_;refine Wq Qz.cmpF ?_;apply AWl.nil;apply AThen.normal;refine AWp.condF (ao rfl) ?_;apply AWp.skip;apply AThen.normal
   refine AWp.dr' (DrawOk.self (by kernel_rfl)) [[],[],[],[],[(36,2),(37,3)],[(38,4)],[(39,5)],[(35,1),(40,6)],[],[(41,7),(42,8)],[(43,9)]] [[],[],[],[],[2,3],[2,3,4],[2,3,4,5],[1,2,3,4,5,6],[],[1,2,3,4,5,6,7,8],[1,2,3,4,5,6,7,8,9]] rfl (by kernel_rfl) (by kernel_rfl) (by kernel_rfl) ?_
   refine Xq Qz.move ?_;refine Xq Qz.ldD ?_;refine Xq Qz.move ?_;refine Xq Qz.move ?_;refine Xq Qz.indexN ?_;refine Xq Qz.fldE ?_;refine Xq Qz.ldE ?_;refine Xq (Qz.call (RMul_abs c (tAt P k).c N M hcs (hP _ ht) hNM)) ?_;refine Xq Qz.ldD ?_;(refine Hq rfl ?_;refine Bq.build (tab_of rfl) rfl rfl rfl ?_;(repeat ((first | refine ⟨_,PartOk.ag (ah rfl),?_⟩ | refine ⟨_,PartOk.one rfl (by first | exact One.ex_ rfl | exact One.sl | exact One.ep),?_⟩);refine ⟨_,rfl,?_⟩));refine ⟨_,rfl,?_⟩;refine ⟨_,rfl,?_⟩);(refine ⟨_,HStep.q rfl (Bq.slice1 (ah rfl) (tab_of rfl) (tab_of rfl) rfl rfl rfl rfl rfl),?_⟩;refine ⟨_,rfl,?_⟩);refine ⟨_,rfl,?_⟩
   (refine AWs.app (ao rfl) rfl rfl (tab_of rfl) (tab_of rfl) rfl rfl (by simp;omega) (by simp;omega) rfl (by first | ((repeat (first | exact PlainHp.nil | refine PlainHp.var ?_ | refine PlainHp.row ?_ | refine PlainHp.dead ?_));done) | fail) rfl ?_);refine Wq Qz.assign ?_;apply AWl.nil;apply ABlock.normal;apply AThen.normal;apply AWp.region;refine Wq Qz.move ?_;refine Wq Qz.succ ?_;refine Wq Qz.assign ?_;apply AWl.nil
   refine ALoop.next (P.length - (k+1)) (by omega) ⟨k+1,by omega,rfl,rfl⟩ ?_
   exact AS.le_of (by refine FrLe.cons rfl (AVle.d rfl) ?_;refine FrLe.cons rfl (AVle.ptr rfl) ?_;refine FrLe.cons rfl (AVle.ptr rfl) ?_;refine FrLe.cons rfl (AVle.own rfl) ?_;refine FrLe.cons rfl (AVle.d rfl) ?_;exact FrLe.nil) (by refine HpLe.cons (OwLe.varD rfl) ?_;refine HpLe.cons (OwLe.varD rfl) ?_;(refine HpLe.cons (OwLe.row ((map_snoc tmC _ ⟨c*(tAt P k).c,add8 m (tAt P k).m⟩).trans (by rw [← htk];simp [tms]))) ?_);exact HpLe.nil)
  ·obtain rfl : k = P.length := by omega
   apply AWp.seq;apply AWp.seq;apply AWp.region;refine Wq Qz.move ?_;refine Wq Qz.move ?_;refine Wq Qz.lenN ?_;refine Wq Qz.cmpF ?_;apply AWl.nil;apply AThen.normal;refine AWp.condF (ao rfl) ?_;apply AWp.exit;apply AThen.exit;apply ALoop.exit;apply ABlock.hit;apply AThen.normal;apply AWp.seq;apply AWp.region;refine Wq Qz.move ?_;refine Wq Qz.assign ?_;refine Wq Qz.assign ?_;apply AWl.nil;apply AThen.normal;apply AWp.ret
   exact Fin.ret (Rets.of2 (ResV.tmp rfl rfl) (ResV.tmp rfl rfl) (D.le.tup2 (D.le.of_eq (by rw [List.take_length];rfl)) (D.le.refl _)))
def sclL (c : Rat) (P:List Tm):List Tm:=if c = 0 then [] else tms c (fun _=>0) P
theorem RScale_abs (c : Rat) (P:List Tm) (N M:Nat) (hcs:RSz c N) (hP:PSz P M) (hPi:PIn P 0 65535) (hn:P.length≤100000) (hNM:N+M≤4398046511103):Abs Tryz.prog 104 [agD (ratC c),polD P] (polD (sclL c P)):=by
 by_cases hc:c = 0
 ·refine Abs.intro Tryz.func104 rfl (callFunc_run Tryz.func104 (by kernel_rfl) (by kernel_rfl)) rfl fun s0 => ?_
  rw [Tryz.ntmps104]
  apply AWp.seq;apply AWp.region;refine AWs.bx (ao rfl) rfl rfl rfl rfl ?_;refine Wq Qz.assign ?_;apply AWl.nil;apply AThen.normal;apply AWp.seq;apply AWp.region;refine Wq Qz.ldD ?_;(refine AWs.q rfl rfl ?_;(refine Bq.arr (tab_of rfl) (tab_of rfl) rfl rfl ?_;(repeat ((first | refine ⟨_,PartOk.ag (ao rfl),?_⟩ | refine ⟨_,PartOk.one rfl (by first | exact One.ex_ rfl | exact One.sl | exact One.ep),?_⟩);refine ⟨_,rfl,?_⟩));refine ⟨_,rfl,?_⟩));refine Wq Qz.move ?_;refine Wq (Qz.call (RTimes0_abs c (fun _=>0) P hc)) ?_;refine Wq Qz.move ?_;refine Wq Qz.ext ?_;refine Wq Qz.ext ?_;refine Wq Qz.assign ?_;refine Wq Qz.assign ?_;apply AWl.nil;apply AThen.normal;apply AWp.seq;apply AWp.region;refine Wq Qz.move ?_;refine Wq Qz.assign ?_;apply AWl.nil;apply AThen.normal;apply AWp.ret
  exact Fin.ret (Rets.of1 (ResV.tmp rfl rfl) (D.le_pol (by rw [sclL,if_pos hc])))
 ·refine Abs.intro Tryz.func104 rfl (callFunc_run Tryz.func104 (by kernel_rfl) (by kernel_rfl)) rfl fun s0 => ?_
  rw [Tryz.ntmps104]
  apply AWp.seq;apply AWp.region;refine AWs.bx (ao rfl) rfl rfl rfl rfl ?_;refine Wq Qz.assign ?_;apply AWl.nil;apply AThen.normal;apply AWp.seq;apply AWp.region;refine Wq Qz.ldD ?_;(refine AWs.q rfl rfl ?_;(refine Bq.arr (tab_of rfl) (tab_of rfl) rfl rfl ?_;(repeat ((first | refine ⟨_,PartOk.ag (ao rfl),?_⟩ | refine ⟨_,PartOk.one rfl (by first | exact One.ex_ rfl | exact One.sl | exact One.ep),?_⟩);refine ⟨_,rfl,?_⟩));refine ⟨_,rfl,?_⟩));refine Wq Qz.move ?_;refine Wq (Qz.call (RTimes_abs c (fun _=>0) P N M hc hcs In8.zero hP hPi (fun t ht=>by rw [zero_add8];exact hPi t ht) hn hNM)) ?_;refine Wq Qz.move ?_;refine Wq Qz.ext ?_;refine Wq Qz.ext ?_;refine Wq Qz.assign ?_;refine Wq Qz.assign ?_;apply AWl.nil;apply AThen.normal;apply AWp.seq;apply AWp.region;refine Wq Qz.move ?_;refine Wq Qz.assign ?_;apply AWl.nil;apply AThen.normal;apply AWp.ret
  exact Fin.ret (Rets.of1 (ResV.tmp rfl rfl) (D.le_pol (by rw [sclL,if_neg hc])))
theorem tms_psz {c : Rat} {m:Nat→Int} {P:List Tm} {N M:Nat} (hc:RSz c N) (hP:PSz P M):PSz (tms c m P) (N+M):=fun t ht=>by
 obtain ⟨s,hs,rfl⟩:=List.mem_map.1 ht
 exact hc.mul (hP s hs)
theorem sclL_psz {c : Rat} {P:List Tm} {N M:Nat} (hc:RSz c N) (hP:PSz P M):PSz (sclL c P) (N+M):=by
 unfold sclL
 split
 ·intro t ht;cases ht
 ·exact tms_psz hc hP
theorem sclL_length (c : Rat) (P:List Tm):(sclL c P).length≤P.length:=by
 unfold sclL
 split <;> simp
theorem rsz_sm {x : Int} (h0:-1000≤x) (h1:x≤1000):RSz ((x:Int):Rat) 1:=by
 refine ⟨?_,?_⟩
 ·show (digs (x:Int).natAbs).length≤1
  exact len_of_lt (by simp only [BB,Nat.pow_one];omega)
 ·show (digs 1).length≤1
  exact len_of_lt (by simp only [BB,Nat.pow_one];omega)
theorem RSub_abs (P Q:List Tm) (N M:Nat) (hP:PSz P N) (hQ:PSz Q M) (hQi:PIn Q 0 65535) (hNM:N+M+2≤4398046511103) (hn:P.length+Q.length≤100000):Abs Tryz.prog 57 [polD P,polD Q] (polD (mrg P (sclL (-1:Int) Q))):=by
 have h1:RSz ((-1:Int):Rat) 1:=rsz_sm (by omega) (by omega)
 have hl:=sclL_length (-1:Int) Q
 refine Abs.intro Tryz.func57 rfl (callFunc_run Tryz.func57 (by kernel_rfl) (by kernel_rfl)) rfl fun s0=>?_
 rw [Tryz.ntmps57]
 apply AWp.seq;apply AWp.region;refine Wq Qz.assign ?_;apply AWl.nil;apply AThen.normal;apply AWp.seq;apply AWp.region;refine Wq Qz.move ?_;refine Wq (Qz.call (RWhole_abs (-1) (by omega) (by omega))) ?_;refine Wq Qz.move ?_;refine Wq (Qz.call (RScale_abs (-1:Int) Q 1 M h1 hQ hQi (by omega) (by omega))) ?_;refine Wq (Qz.call (RAdd_pol P (sclL (-1:Int) Q) N (1+M) hP (sclL_psz h1 hQ) (by omega) (by omega))) ?_;refine Wq Qz.assign ?_;apply AWl.nil;apply AThen.normal;apply AWp.ret
 exact Fin.ret (Rets.of1 (ResV.tmp rfl rfl) (D.le.refl _))
end Go.Proofs.YteicdddphdomkaaGreat
namespace Go.Proofs.YteicdddphdomkaaGreat
open Go.RowKit
theorem Canon.nil : Canon []:=⟨List.Pairwise.nil,fun t h=>by cases h⟩
theorem Canon.single {t : Tm} (h:t.c ≠ 0):Canon [t]:=⟨List.pairwise_singleton _ _,fun u hu=>by rw [List.mem_singleton.1 hu];exact h⟩
theorem mrg_psz {N M:Nat}:∀ {P Q:List Tm},PSz P N→PSz Q M→PSz (mrg P Q) (N+M+1)
 | [],Q,_,h=>by simp only [mrg];exact h.mono (by omega)
 | s :: P,[],h,_=>by simp only [mrg];exact h.mono (by omega)
 | s :: P,t :: Q,hP,hQ=>by
  have hP':PSz P N:=fun u hu=>hP u (by simp [hu])
  have hQ':PSz Q M:=fun u hu=>hQ u (by simp [hu])
  have con:∀ {x:Tm} {L:List Tm},RSz x.c (N+M+1)→PSz L (N+M+1)→PSz (x :: L) (N+M+1):=fun h1 h2 u hu=>by
   rcases List.mem_cons.1 hu with rfl | hu
   ·exact h1
   ·exact h2 u hu
  rw [mrg]
  split
  ·exact con ((hP s (by simp)).mono (by omega)) (mrg_psz hP' hQ)
  ·split
   ·exact con ((hQ t (by simp)).mono (by omega)) (mrg_psz hP hQ')
   ·split
    ·exact mrg_psz hP' hQ'
    ·exact con ((hP s (by simp)).add (hQ t (by simp))) (mrg_psz hP' hQ')
termination_by P Q => P.length+Q.length
theorem mrg_pin {P Q:List Tm} {a b:Int} (hP:PIn P a b) (hQ:PIn Q a b):PIn (mrg P Q) a b:=fun u hu=>by
 rcases mrg_mem P Q u hu with ⟨s,hs,e⟩ | ⟨s,hs,e⟩
 ·rw [← e];exact hP s hs
 ·rw [← e];exact hQ s hs
theorem SameL.symm : ∀ {P Q:List Tm},SameL P Q→SameL Q P
 | [],[],_=>trivial
 | _ :: _,_ :: _,h=>⟨h.1.symm,h.2.1.symm,SameL.symm h.2.2⟩
 | [],_ :: _,h=>h.elim
 | _ :: _,[],h=>h.elim
structure PB (P : List Tm) (n N:Nat) (d:Int):Prop where
 can:Canon P
 len:P.length≤n
 sz:PSz P N
 ex:PIn P 0 d
theorem PB.mono {P : List Tm} {n N n' N':Nat} {d d':Int} (h:PB P n N d) (h1:n≤n') (h2:N≤N') (h3:d≤d'):PB P n' N' d':=⟨h.can,Nat.le_trans h.len h1,h.sz.mono h2,h.ex.mono (Int.le_refl _) h3⟩
theorem PB.nil {n N:Nat} {d:Int}:PB [] n N d:=⟨Canon.nil,Nat.zero_le _,fun t h=>(by cases h),fun t h=>(by cases h)⟩
theorem PB.add {P Q:List Tm} {n N n' N':Nat} {d d':Int} (h:PB P n N d) (k:PB Q n' N' d'):PB (mrg P Q) (n+n') (N+N'+1) (max d d') :=
 ⟨mrg_canon h.can k.can,by have:=mrg_length P Q;have:=h.len;have:=k.len;omega,mrg_psz h.sz k.sz,mrg_pin (h.ex.mono (Int.le_refl _) (by omega)) (k.ex.mono (Int.le_refl _) (by omega))⟩
def neg (P : List Tm):List Tm:=P.map (fT fun q=>-q)
theorem dec_map {f : Tm→Tm} {P:List Tm} (h:Dec P) (hf:∀ s∈P,∀ t∈P,0<lx s.m t.m→0<lx (f s).m (f t).m):Dec (P.map f):=by
 refine List.pairwise_map.2 (List.Pairwise.imp_of_mem (fun {a b} ha hb hab=>hf a ha b hb hab) h)
theorem neg_canon {P : List Tm} (h:Canon P):Canon (neg P):=⟨dec_map h.1 fun _ _ _ _ h=>h,fun t ht=>by
 obtain ⟨s,hs,rfl⟩:=List.mem_map.1 ht
 intro e
 have e:-s.c = 0:=e
 exact h.2 s hs (by grind)⟩
theorem PB.neg {P : List Tm} {n N : Nat} {d : Int} (h : PB P n N d) : PB (neg P) n N d := ⟨neg_canon h.can, by rw [Go.Proofs.YteicdddphdomkaaGreat.neg, List.length_map]; exact h.len, fun t ht => by
 obtain ⟨s,hs,rfl⟩:=List.mem_map.1 ht
 exact (h.sz s hs).neg,fun t ht=>by
 obtain ⟨s,hs,rfl⟩:=List.mem_map.1 ht
 exact h.ex s hs⟩
theorem neg_dot (f : (Nat→Int)→Rat):∀ P:List Tm,dot f (neg P) = -dot f P
 | []=>by simp [neg,dot]
 | t :: P=>by
  have:=neg_dot f P
  simp only [neg,List.map_cons,dot,fT] at this ⊢
  rw [this];grind
def psub (P Q:List Tm):List Tm:=mrg P (neg Q)
theorem PB.sub {P Q:List Tm} {n N n' N':Nat} {d d':Int} (h:PB P n N d) (k:PB Q n' N' d'):PB (psub P Q) (n+n') (N+N'+1) (max d d'):=h.add k.neg
theorem rat_mul_ne {a b:Rat} (ha:a ≠ 0) (hb:b ≠ 0):a*b ≠ 0:=fun e=>by
 rcases Rat.mul_eq_zero.1 e with h | h
 ·exact ha h
 ·exact hb h
theorem tms_canon {c : Rat} {m:Nat→Int} {P:List Tm} (hc:c ≠ 0) (h:Canon P):Canon (tms c m P):=⟨dec_map h.1 fun s _ t _ h=>by
 show 0<lx (add8 m s.m) (add8 m t.m)
 rwa [add8_comm m,add8_comm m,lx_add],fun t ht=>by
 obtain ⟨s,hs,rfl⟩:=List.mem_map.1 ht
 exact rat_mul_ne hc (h.2 s hs)⟩
theorem add8_in {a b:Nat→Int} {d e:Int} (ha:In8 a 0 d) (hb:In8 b 0 e):In8 (add8 a b) 0 (d+e):=fun i hi=>by
 have:=ha i hi
 have:=hb i hi
 simp only [add8]
 omega
theorem tms_pb {t : Tm} {P:List Tm} {n N N0:Nat} {d d0:Int} (h:PB P n N d) (hc:t.c ≠ 0) (hs:RSz t.c N0) (hm:In8 t.m 0 d0):PB (tms t.c t.m P) n (N0+N) (d0+d) :=
 ⟨tms_canon hc h.can, by rw [tms_length]; exact h.len, tms_psz hs h.sz, fun u hu => by
  obtain ⟨s,hs,rfl⟩:=List.mem_map.1 hu
  exact add8_in hm (h.ex s hs)⟩
def mulTo (A P Q:List Tm):List Tm:=P.foldl (fun a s=>mrg a (tms s.c s.m Q)) A
def pmul (P Q:List Tm):List Tm:=mulTo [] P Q
theorem mulTo_pb {Q : List Tm} {n' N' N:Nat} {d d':Int} (hQ:PB Q n' N' d'):∀ {P A:List Tm} {k K:Nat},(∀ t∈P,t.c ≠ 0)→PSz P N→PIn P 0 d→PB A k K (d+d')→PB (mulTo A P Q) (k+P.length*n') (K+P.length*(N+N'+1)) (d+d')
 | [],A,k,K,_,_,_,h=>by simpa [mulTo] using h
 | t :: P,A,k,K,h1,h2,h3,h=>by
  have ht:=tms_pb (t:=t) (d0:=d) hQ (h1 t (by simp)) (h2 t (by simp)) (h3 t (by simp))
  have h4:PB (mrg A (tms t.c t.m Q)) (k+n') (K+(N+N'+1)) (d+d'):=(h.add ht).mono (Nat.le_refl _) (by omega) (by omega)
  have:=mulTo_pb hQ (P:=P) (fun u hu=>h1 u (by simp [hu])) (fun u hu=>h2 u (by simp [hu])) (fun u hu=>h3 u (by simp [hu])) h4
  refine this.mono ?_ ?_ (Int.le_refl _)
  ·rw [List.length_cons,Nat.succ_mul];omega
  ·rw [List.length_cons,Nat.succ_mul];omega
theorem mulTo_sim {Q : List Tm}:∀ {P A:List Tm},Sim (mulTo A P Q) (A ++ mulL P Q)
 | [],A=>by simp only [mulTo,mulL,List.foldl_nil,List.flatMap_nil,List.append_nil];exact Sim.refl _
 | t :: P,A=>by
  refine (mulTo_sim (P:=P) (A:=mrg A (tms t.c t.m Q))).trans ?_
  refine ((mrg_sim _ _).append (Sim.refl _)).trans ?_
  simp only [mulL,List.flatMap_cons,tms,List.append_assoc]
  exact Sim.refl _
theorem pmul_sim (P Q:List Tm):Sim (pmul P Q) (mulL P Q):=mulTo_sim
theorem PB.mul {P Q:List Tm} {n N n' N':Nat} {d d':Int} (h:PB P n N d) (k:PB Q n' N' d') (h0:0≤d) (h0':0≤d'):PB (pmul P Q) (n*n') (n*(N+N'+1)) (d+d'):=by
 have:=mulTo_pb (A:=[]) (k:=0) (K:=0) (d:=d) k h.can.2 h.sz h.ex PB.nil
 refine this.mono ?_ ?_ (Int.le_refl _)
 ·rw [Nat.zero_add];exact Nat.mul_le_mul_right _ h.len
 ·rw [Nat.zero_add];exact Nat.mul_le_mul_right _ h.len
theorem polD_sim {P Q:List Tm} (hP:Canon P) (hQ:Canon Q) (h:Sim P Q):polD P = polD Q:=polD_same (canon_unique hP hQ h)
theorem neg_sim {P Q:List Tm} (h:Sim P Q):Sim (neg P) (neg Q):=fun f hf=>by rw [neg_dot,neg_dot,h f hf]
theorem PB.same {P Q:List Tm} {n N:Nat} {d:Int} (h:PB P n N d) (hs:SameL P Q):PB Q n N d:=by
 have key:∀ {P Q:List Tm},SameL P Q→∀ t∈Q,∃ s∈P,s.c = t.c∧Eqv s.m t.m:=by
  intro P
  induction P with
  | nil=>intro Q h t ht;cases Q with
   | nil=>cases ht
   | cons=>exact h.elim
  | cons s P ih=>intro Q h t ht;cases Q with
   | nil=>exact h.elim
   | cons u Q =>
    rcases List.mem_cons.1 ht with rfl | ht
    ·exact ⟨s,by simp,h.1,h.2.1⟩
    ·obtain ⟨x,hx,e⟩:=ih h.2.2 t ht
     exact ⟨x,by simp [hx],e⟩
 have dec:∀ {P Q:List Tm},SameL P Q→Dec P→Dec Q:=by
  intro P
  induction P with
  | nil=>intro Q h _;cases Q with
   | nil=>exact List.Pairwise.nil
   | cons=>exact h.elim
  | cons s P ih=>intro Q h hd;cases Q with
   | nil=>exact h.elim
   | cons u Q =>
    have hd:=List.pairwise_cons.1 hd
    refine List.pairwise_cons.2 ⟨fun t ht=>?_,ih h.2.2 hd.2⟩
    obtain ⟨x,hx,_,e⟩:=key h.2.2 t ht
    rw [← lx_congr h.2.1 e]
    exact hd.1 x hx
 refine ⟨⟨dec hs h.can.1,fun t ht=>?_⟩,by rw [← hs.length];exact h.len,fun t ht=>?_,fun t ht=>?_⟩
 ·obtain ⟨s,hs,e,_⟩:=key hs t ht
  rw [← e];exact h.can.2 s hs
 ·obtain ⟨s,hs,e,_⟩:=key hs t ht
  rw [← e];exact h.sz s hs
 ·obtain ⟨s,hs,_,e⟩:=key hs t ht
  intro i hi
  rw [← e i hi];exact h.ex s hs i hi
theorem constL_pb {c : Rat} {N:Nat} (h:RSz c N) {d:Int} (hd:0≤d):PB (constL c) 1 N d:=by
 unfold constL
 split
 ·exact PB.nil
 ·rename_i hc
  refine ⟨Canon.single hc,by simp,fun t ht=>by rw [List.mem_singleton.1 ht];exact h,fun t ht=>by rw [List.mem_singleton.1 ht];exact fun i hi=>⟨Int.le_refl _,hd⟩⟩
theorem PB.single {t : Tm} {N:Nat} {d:Int} (h:t.c ≠ 0) (hs:RSz t.c N) (hm:In8 t.m 0 d):PB [t] 1 N d:=⟨Canon.single h,by simp,fun u hu=>by rw [List.mem_singleton.1 hu];exact hs,fun u hu=>by rw [List.mem_singleton.1 hu];exact hm⟩
theorem unitE_in {i : Nat}:In8 (unitE i) 0 1:=fun j _=>by
 unfold unitE setM
 split
 ·omega
 ·exact ⟨Int.le_refl _,(by show (0:Int)≤1;omega)⟩
end Go.Proofs.YteicdddphdomkaaGreat
namespace Go.Proofs.YteicdddphdomkaaGreat
open Go.RowKit
set_option maxRecDepth 100000
theorem mulTo_take {P Q A:List Tm} {k:Nat} (h:k<P.length):mulTo A (P.take (k+1)) Q = mrg (mulTo A (P.take k) Q) (tms (tAt P k).c (tAt P k).m Q):=foldl_tAt (fun a s=>mrg a (tms s.c s.m Q)) A h
theorem mulTo_take_pb {P Q:List Tm} {n N n' N':Nat} {d d':Int} (h:PB P n N d) (hQ:PB Q n' N' d') (h0:0≤d) (h0':0≤d') (k:Nat):PB (mulTo [] (P.take k) Q) (n*n') (n*(N+N'+1)) (d+d'):=by
 have:=mulTo_pb (A:=[]) (k:=0) (K:=0) (d:=d) (P:=P.take k) hQ (fun t ht=>h.can.2 t (List.mem_of_mem_take ht)) (fun t ht=>h.sz t (List.mem_of_mem_take ht)) (fun t ht=>h.ex t (List.mem_of_mem_take ht)) PB.nil
 have hl:(P.take k).length≤n:=Nat.le_trans (by rw [List.length_take];omega) h.len
 refine this.mono ?_ ?_ (Int.le_refl _)
 ·rw [Nat.zero_add];exact Nat.mul_le_mul_right _ hl
 ·rw [Nat.zero_add];exact Nat.mul_le_mul_right _ hl
theorem RPMul_pb {P Q:List Tm} {n N n' N':Nat} {d d':Int} (hP:PB P n N d) (hQ:PB Q n' N' d') (h0:0≤d) (h0':0≤d') (hd:d+d'≤65535) (hn0:n≤100000) (hn:n*n'+n'≤100000) (hN:n*(N+N'+1)+N+N'+1≤4398046511102):Abs Tryz.prog 115 [polD P,polD Q] (tupD [polD (pmul P Q),ex (.int .i64 0)]):=by
 have hPl:=hP.len
 have hQl:=hQ.len
 refine Abs.intro Tryz.func115 rfl (callFunc_run Tryz.func115 (by kernel_rfl) (by kernel_rfl)) rfl fun s0=>?_
 rw [Tryz.ntmps115]
 repeat (first | apply AWp.seq | apply AWp.region | (apply Ga.b0;refine AWs.b0 (tab_of rfl) (tab_of rfl) rfl rfl rfl rfl rfl ?_) | (refine AWs.q rfl rfl ?_;(apply Gt.assign;refine ⟨_,Qs.assign (ao rfl),?_⟩)) | apply AWl.nil | apply AThen.normal | apply AWp.block)
 refine AWp.loop (fun mz σ=>∃ k,k≤P.length∧mz = P.length - k∧σ = ⟨[(0,.d (polD P)),(1,.d (polD Q)),(6,.d (polD (mulTo [] (P.take k) Q))),(7,.d (ex (.int .i64 (k:Nat))))],[]⟩) ?le ⟨0,by omega,rfl,rfl⟩ ?round
 case le=>exact AS.le_of (by repeat (first | exact FrLe.nil | refine FrLe.cons rfl (AVle.d rfl) ?_ | refine FrLe.cons rfl (AVle.ownD rfl (D.le.refl _)) ?_)) (by repeat (exact HpLe.nil))
 case round =>
  rintro mz _ ⟨k,hk,rfl,rfl⟩
  by_cases hlt:k<P.length
  ·have ht:=tAt_mem hlt
   have hm:=hP.ex _ ht
   have hb:=mulTo_take_pb hP hQ h0 h0' k
   have hbl:=hb.len
   have ht2:=tms_pb (t:=tAt P k) hQ (hP.can.2 _ ht) (hP.sz _ ht) hm
   have ht2l:=ht2.len
   repeat (first | apply AWp.seq | apply AWp.region | (refine AWs.q rfl rfl ?_;first | (apply Gt.move;refine ⟨_,Qs.move (ao rfl),?_⟩) | (apply Gt.len;refine ⟨_,Qs.lenN rfl (tab_of rfl),?_⟩) | (apply Gt.bin;refine ⟨_,Qs.cmpT rfl (ao rfl) (ao rfl) (by first | (simp only [cmpP,List.length_cons,List.length_nil];omega) | (simp [cmpP];done) | (simp [cmpP];omega)),?_⟩)) | apply AWl.nil | apply AThen.normal | apply AWp.block | apply AWp.skip | (apply Gc.cond;refine AWp.condT (ao rfl) ?_))
   refine AWp.dr' (DrawOk.float (e:=14) (by kernel_rfl) (AddE.keep (AddE.keep (AddE.keep (AddE.keep (AddE.keep (AddE.keep (AddE.keep (AddE.keep (AddE.keep (AddE.keep (AddE.keep (AddE.keep (AddE.keep (AddE.keep (AddE.keep (AddE.add (AddE.keep AddE.nil))))))))))))))))) (by kernel_rfl)) [[],[],[(18,0),(19,1)],[(20,2)],[(21,3)],[],[],[(23,5),(24,6)],[(25,7)],[(26,8)],[],[(22,4),(27,9),(28,10)],[(29,11)],[(17,12)],[(17,12)]] [[],[],[0,1],[0,1,2],[0,1,2,3],[],[],[5,6],[5,6,7],[5,6,7,8],[],[0,1,2,3,4,5,6,7,8,9,10],[0,1,2,3,4,5,6,7,8,9,10,11],[0,1,2,3,4,5,6,7,8,9,10,11,12],[0,1,2,3,4,5,6,7,8,9,10,11,12]] rfl (by kernel_rfl) (by kernel_rfl) (by kernel_rfl) ?_
   repeat (first | refine ⟨_,rfl,?_⟩ | (apply Gh.move;(refine ⟨_,HStep.q rfl (Qs.move (ah rfl)),?_⟩;refine ⟨_,rfl,?_⟩)) | (apply Gh.load;first | (refine ⟨_,HStep.q rfl (Qs.loadEf (ah rfl) (tab_of rfl) rfl rfl),?_⟩;refine ⟨_,rfl,?_⟩) | (refine ⟨_,HStep.q rfl (Qs.ldE (ah rfl) (tab_of rfl) rfl rfl),?_⟩;refine ⟨_,rfl,?_⟩)) | (apply Gh.fieldAddr;(refine ⟨_,HStep.q rfl (Qs.fldE (ah rfl) (tab_of rfl) rfl (tab_of rfl) rfl rfl),?_⟩;refine ⟨_,rfl,?_⟩)) | (apply Gh.indexAddr;(refine ⟨_,HStep.q rfl (Qs.indexN rfl (ah rfl) (tab_of rfl) (tab_of rfl) rfl (by first | omega | (simp;omega))),?_⟩;refine ⟨_,rfl,?_⟩)) | (apply Gh.ext;(refine ⟨_,HStep.q rfl (Qs.ext (ah rfl) rfl),?_⟩;refine ⟨_,rfl,?_⟩)) | (apply Gh.callv;(refine ⟨_,HStep.q rfl (Qs.call (ah rfl) (RTimes_abs (tAt P k).c (tAt P k).m Q N N' (hP.can.2 _ ht) (hP.sz _ ht) (hm.mono (Int.le_refl _) (by omega)) hQ.sz (hQ.ex.mono (Int.le_refl _) (by omega)) (fun t h=>(add8_in hm (hQ.ex t h)).mono (Int.le_refl _) hd) (by omega) (by omega)) (by first | ((repeat (first | exact ArgsLe.nil | refine ArgsLe.cons rfl (D.le.refl _) ?_ | refine ArgsLe.cons rfl D.le_nil ?_));done) | fail)),?_⟩;refine ⟨_,rfl,?_⟩)))
   repeat (first | apply AWp.seq | apply AWp.region | (refine AWs.q rfl rfl ?_;first | (apply Gt.move;refine ⟨_,Qs.move (ao rfl),?_⟩) | (apply Gt.assign;refine ⟨_,Qs.assign (ao rfl),?_⟩) | (apply Gt.add;refine ⟨_,Qs.succ (ao rfl) (ao rfl) (by omega),?_⟩) | (apply Gt.bin;refine ⟨_,Qs.cmpF rfl (ao rfl) (ao rfl) (by first | (simp only [cmpP,List.length_cons,List.length_nil];omega) | (simp [cmpP];done) | (simp [cmpP];omega)),?_⟩) | (apply Gt.callv;refine ⟨_,Qs.call (ao rfl) (RAdd_pol (mulTo [] (P.take k) Q) (tms (tAt P k).c (tAt P k).m Q) (n*(N+N'+1)) (N+N') hb.sz ht2.sz (by omega) (by omega)) (by first | ((repeat (first | exact ArgsLe.nil | refine ArgsLe.cons rfl (D.le.refl _) ?_ | refine ArgsLe.cons rfl D.le_nil ?_));done) | fail),?_⟩)) | apply OnlyN.mk' | apply AWl.nil | apply AThen.normal | apply AWp.skip | apply ABlock.normal | (apply Gc.cond;refine AWp.condF (ao rfl) ?_))
   refine ALoop.next (P.length - (k+1)) (by omega) ⟨k+1,by omega,rfl,rfl⟩ ?_
   exact AS.le_of (by repeat (first | exact FrLe.nil | refine FrLe.cons rfl (AVle.d rfl) ?_ | refine FrLe.cons rfl (AVle.le (D.le_pol (mulTo_take hlt).symm)) ?_)) (by repeat (exact HpLe.nil))
  ·obtain rfl : k = P.length := by omega
   repeat (first | apply AWp.seq | apply AWp.region | (refine AWs.q rfl rfl ?_;first | (apply Gt.move;refine ⟨_,Qs.move (ao rfl),?_⟩) | (apply Gt.assign;refine ⟨_,Qs.assign (ao rfl),?_⟩) | (apply Gt.len;refine ⟨_,Qs.lenN rfl (tab_of rfl),?_⟩) | (apply Gt.bin;refine ⟨_,Qs.cmpF rfl (ao rfl) (ao rfl) (by first | (simp only [cmpP,List.length_cons,List.length_nil];omega) | (simp [cmpP];done) | (simp [cmpP];omega)),?_⟩)) | apply AWl.nil | apply AThen.normal | apply AWp.exit | apply AWp.ret | apply AThen.exit | apply ABlock.hit | apply ALoop.exit | (apply Gc.cond;refine AWp.condF (ao rfl) ?_))
   exact Fin.ret (Rets.of2 (ResV.tmp rfl rfl) (ResV.tmp rfl rfl) (D.le.tup2 (D.le_pol (by rw [List.take_length];rfl)) (D.le.refl _)))
theorem RBy_pb {P Q:List Tm} {n N n' N':Nat} {d d':Int} (hP:PB P n N d) (hQ:PB Q n' N' d') (h0:0≤d) (h0':0≤d') (hd:d+d'≤65535) (hn0:n≤100000) (hn:n*n'+n'≤100000) (hN:n*(N+N'+1)+N+N'+1≤4398046511102):Abs Tryz.prog 47 [polD P,polD Q] (polD (pmul P Q)):=by
 refine Abs.intro Tryz.func47 rfl (callFunc_run Tryz.func47 (by kernel_rfl) (by kernel_rfl)) rfl fun s0=>?_
 rw [Tryz.ntmps47]
 repeat (first | apply AWp.seq | apply AWp.region | (refine AWs.q rfl rfl ?_;first | (apply Gt.move;refine ⟨_,Qs.move (ao rfl),?_⟩) | (apply Gt.assign;refine ⟨_,Qs.assign (ao rfl),?_⟩) | (apply Gt.ext;refine ⟨_,Qs.ext (ao rfl) rfl,?_⟩) | (apply Gt.callv;refine ⟨_,Qs.call (ao rfl) (RPMul_pb hP hQ h0 h0' hd hn0 hn hN) (by first | ((repeat (first | exact ArgsLe.nil | refine ArgsLe.cons rfl (D.le.refl _) ?_ | refine ArgsLe.cons rfl D.le_nil ?_));done) | fail),?_⟩)) | apply AWl.nil | apply AThen.normal | apply AWp.ret)
 exact Fin.ret (Rets.of1 (ResV.tmp rfl rfl) (D.le.refl _))
theorem Abs.le {P : Program} {f:FuncId} {ds:List D} {r r':D} (h:Abs P f ds r) (hr:D.le r r'):Abs P f ds r' :=
 ⟨h.1,fun s vs h1 h2 h3=>(h.2 s vs h1 h2 h3).mono fun e w' ⟨v,he,s',hw,hl,hv⟩=>⟨v,he,s',hw,hl,hr _ _ hv⟩⟩
theorem PMul_pb {P Q:List Tm} {n N n' N':Nat} {d d':Int} (hP:PB P n N d) (hQ:PB Q n' N' d') (h0:0≤d) (h0':0≤d') (hd:d+d'≤65535) (hn:n*n'≤100000) (hN:N+N'+1≤10000000):Abs Tryz.prog 18 [polD P,polD Q] (tupD [polD (pmul P Q),ex (.int .i64 0)]) :=
 (PMul_abs P Q N N' hP.sz hQ.sz d d' hP.ex hQ.ex hd h0 h0' (Nat.le_trans (Nat.mul_le_mul hP.len hQ.len) hn) hN).le fun s v hv=>by
  obtain ⟨S,⟨h1,h2,_⟩,h3⟩:=hv
  have h3:(tupD [polD S,ex (.int .i64 0)]).rel s v:=h3
  rwa [polD_sim h1 (hP.mul hQ h0 h0').can (h2.trans (pmul_sim P Q).symm)] at h3
theorem PAdd_pb {P Q:List Tm} {n N n' N':Nat} {d d':Int} (hP:PB P n N d) (hQ:PB Q n' N' d') (hn:n+n'≤100000) (hN:N+N'+1≤4398046511104):Abs Tryz.prog 20 [polD P,polD Q] (polD (mrg P Q)) :=
 PAdd_abs P Q N N' hP.sz hQ.sz hN (Nat.le_trans (Nat.add_le_add hP.len hQ.len) hn)
theorem PSub_pb {P Q:List Tm} {n N n' N':Nat} {d d':Int} (hP:PB P n N d) (hQ:PB Q n' N' d') (hn:n+n'≤100000) (hN:N+N'+1≤4398046511104):Abs Tryz.prog 21 [polD P,polD Q] (polD (psub P Q)) :=
 PSub_abs P Q N N' hP.sz hQ.sz hN (Nat.le_trans (Nat.add_le_add hP.len hQ.len) hn)
theorem RAdd_pb {P Q:List Tm} {n N n' N':Nat} {d d':Int} (hP:PB P n N d) (hQ:PB Q n' N' d') (hn:n+n'≤100000) (hN:N+N'+1≤4398046511103):Abs Tryz.prog 56 [polD P,polD Q] (polD (mrg P Q)) :=
 RAdd_pol P Q N N' hP.sz hQ.sz hN (Nat.le_trans (Nat.add_le_add hP.len hQ.len) hn)
theorem scl_one_neg {Q : List Tm} (hQ:Canon Q):SameL (sclL (-1:Int) Q) (neg Q):=by
 rw [sclL,if_neg (by decide)]
 induction Q with
 | nil=>trivial
 | cons t Q ih =>
  refine ⟨?_,fun i _=>?_,ih ⟨(List.pairwise_cons.1 hQ.1).2,fun u hu=>hQ.2 u (by simp [hu])⟩⟩
  ·show ((-1:Int):Rat)*t.c = -t.c
   have:((-1:Int):Rat) = -1:=rfl
   rw [this];grind
  ·show 0+t.m i = t.m i
   omega
theorem RSub_pb {P Q:List Tm} {n N n' N':Nat} {d d':Int} (hP:PB P n N d) (hQ:PB Q n' N' d') (hd:d'≤65535) (hn:n+n'≤100000) (hN:N+N'+2≤4398046511103):Abs Tryz.prog 57 [polD P,polD Q] (polD (psub P Q)):=by
 have hs:=scl_one_neg hQ.can
 have hc:=(hQ.neg.same hs.symm).can
 exact (RSub_abs P Q N N' hP.sz hQ.sz (hQ.ex.mono (Int.le_refl _) hd) hN (Nat.le_trans (Nat.add_le_add hP.len hQ.len) hn)).le (D.le.of_eq (polD_sim (mrg_canon hP.can hc) (mrg_canon hP.can hQ.neg.can) ((mrg_sim _ _).trans (((Sim.refl P).append hs.sim).trans (mrg_sim _ _).symm))))
theorem RSame_true {P Q:List Tm} (h:SameL P Q):Abs Tryz.prog 19 [polD P,polD Q] (ex (.bool true)):=by
 have:=RSame_abs P Q
 rwa [sameB_true.2 h] at this
theorem RSame_sim {P Q:List Tm} (hP:Canon P) (hQ:Canon Q) (h:Sim P Q):Abs Tryz.prog 19 [polD P,polD Q] (ex (.bool true)):=RSame_true (canon_unique hP hQ h)
theorem PValid_pb {P : List Tm} {n N:Nat} {d:Int} (h:PB P n N d) (hd:d≤65535) (hN:N≤1000000000) (hn:n≤1000000):Abs Tryz.prog 14 [polD P] (ex (.bool true)):=PValidP_abs P N h.can (h.ex.mono (Int.le_refl _) hd) h.sz hN (Nat.le_trans h.len hn)
end Go.Proofs.YteicdddphdomkaaGreat
namespace Go.Proofs.YteicdddphdomkaaGreat
open Go.RowKit
set_option maxRecDepth 100000
theorem Rabs_abs (z : Int) (h0:-128≤z) (h1:z≤127):Abs Tryz.prog 103 [ex (.int .i8 z)] (ex (.int .i64 (z.natAbs:Nat))):=by
 by_cases hz:z<0
 ·refine Abs.intro Tryz.func103 rfl (callFunc_run Tryz.func103 (by kernel_rfl) (by kernel_rfl)) rfl fun s0 => ?_
  rw [Tryz.ntmps103]
  repeat (first | refine AWs.q rfl rfl ?_;refine ⟨_,Qs.conv64 (ao rfl) (tab_of rfl) (tab_of rfl) (by omega) (by omega),?_⟩ | refine AWs.q rfl rfl ?_;refine ⟨_,Qs.neg (ao rfl) (by omega) (by omega),?_⟩ | apply AWp.seq | apply AWp.region | (refine AWs.q rfl rfl ?_;first | (apply Gt.move;refine ⟨_,Qs.move (ao rfl),?_⟩) | (apply Gt.assign;refine ⟨_,Qs.assign (ao rfl),?_⟩) | (apply Gt.bin;refine ⟨_,Qs.cmpT rfl (ao rfl) (ao rfl) (by first | (simp only [cmpP,List.length_cons,List.length_nil];omega) | (simp [cmpP];done) | (simp [cmpP];omega)),?_⟩)) | apply AWl.nil | apply AThen.normal | apply AWp.ret | apply AThen.ret | (apply Gc.cond;refine AWp.condT (ao rfl) ?_))
  exact Fin.ret (Rets.of1 (ResV.tmp rfl rfl) (D.le.of_eq (by congr 2;omega)))
 ·refine Abs.intro Tryz.func103 rfl (callFunc_run Tryz.func103 (by kernel_rfl) (by kernel_rfl)) rfl fun s0 => ?_
  rw [Tryz.ntmps103]
  repeat (first | refine AWs.q rfl rfl ?_;refine ⟨_,Qs.conv64 (ao rfl) (tab_of rfl) (tab_of rfl) (by omega) (by omega),?_⟩ | apply AWp.seq | apply AWp.region | (refine AWs.q rfl rfl ?_;first | (apply Gt.move;refine ⟨_,Qs.move (ao rfl),?_⟩) | (apply Gt.assign;refine ⟨_,Qs.assign (ao rfl),?_⟩) | (apply Gt.bin;refine ⟨_,Qs.cmpF rfl (ao rfl) (ao rfl) (by first | (simp only [cmpP,List.length_cons,List.length_nil];omega) | (simp [cmpP];done) | (simp [cmpP];omega)),?_⟩)) | apply AWl.nil | apply AThen.normal | apply AWp.skip | apply AWp.ret | (apply Gc.cond;refine AWp.condF (ao rfl) ?_))
  exact Fin.ret (Rets.of1 (ResV.tmp rfl rfl) (D.le.of_eq (by congr 2;omega)))
def lft (deg : Int) (r:Nat→Int):Nat→Int
 | 0=>deg
 | j+1=>lft deg r j - ((r (j+1)).natAbs:Nat) % (lft deg r j+1)
theorem lft_in {deg : Int} (r:Nat→Int) (h:0≤deg):∀ j,0≤lft deg r j∧lft deg r j≤deg
 | 0=>⟨h,Int.le_refl _⟩
 | j+1=>by
  have ih:=lft_in r h j
  have h1:=Int.emod_nonneg ((r (j+1)).natAbs:Int) (show lft deg r j+1 ≠ 0 by omega)
  have h2:=Int.emod_lt_of_pos ((r (j+1)).natAbs:Int) (show 0<lft deg r j+1 by omega)
  simp only [lft]
  omega
def expE (deg : Int) (r:Nat→Int) (n:Nat):Nat→Int:=fun j=>if j<n then ((r (j+1)).natAbs:Nat) % (lft deg r j+1) else 0
theorem expE_in {deg : Int} (r:Nat→Int) (h:0≤deg) (n:Nat):In8 (expE deg r n) 0 deg:=fun j _=>by
 unfold expE
 have ih:=lft_in r h j
 split
 ·have h1 := Int.emod_nonneg ((r (j + 1)).natAbs : Int) (show lft deg r j + 1 ≠ 0 by omega)
  have h2:=Int.emod_lt_of_pos ((r (j+1)).natAbs:Int) (show 0<lft deg r j+1 by omega)
  omega
 ·omega
theorem expE_set (deg : Int) (r:Nat→Int) (k:Nat):setM (expE deg r k) k (((r (k+1)).natAbs:Nat) % (lft deg r k+1)) = expE deg r (k+1):=by
 funext j
 simp only [setM,expE]
 rcases Nat.lt_trichotomy j k with h | h | h
 ·rw [if_neg (by omega),if_pos h,if_pos (by omega)]
 ·subst h;simp
 ·rw [if_neg (by omega),if_neg (by omega),if_neg (by omega)]
def rawT (deg : Int) (n:Nat) (r:Nat→Int):List Tm:=sclL ((Int.tmod (r 0) 4:Int):Rat) [⟨1,expE deg r n⟩]
def madeTo (deg : Int) (n:Nat) (X:List (Nat→Int)):List Tm:=X.foldl (fun a r=>mrg a (rawT deg n r)) []
def madeP (X : List (Nat→Int)) (n:Nat) (deg:Int) (terms:Nat):List Tm:=madeTo deg (min n 4) (X.take (min X.length terms))
theorem tmod4 (z : Int):-3≤Int.tmod z 4∧Int.tmod z 4≤3:=by
 rcases Int.le_total 0 z with h | h
 ·rw [Int.tmod_eq_emod_of_nonneg h];omega
 ·have:Int.tmod z 4 = -((-z) % 4):=by
   rw [← Int.tmod_eq_emod_of_nonneg (by omega),Int.neg_tmod,Int.neg_neg]
  omega
theorem sclL_pb {c : Rat} {P:List Tm} {n N N0:Nat} {d:Int} (h:PB P n N d) (hs:RSz c N0):PB (sclL c P) n (N0+N) d:=by
 unfold sclL
 split
 ·exact PB.nil
 ·rename_i hc
  have:=tms_pb (t:=⟨c,fun _=>0⟩) (d0:=0) h hc hs fun i _=>⟨Int.le_refl _,Int.le_refl _⟩
  rwa [Int.zero_add] at this
theorem one_pb {m : Nat→Int} {d:Int} (h:In8 m 0 d):PB [⟨1,m⟩] 1 1 d:=PB.single (show (1:Rat) ≠ 0 by decide) (rsz_one) h
where rsz_one : RSz (1:Rat) 1:=rsz_sm (x:=1) (by omega) (by omega)
theorem tmod_sz (z : Int):RSz ((Int.tmod z 4:Int):Rat) 1:=by
 have:=tmod4 z
 exact rsz_sm (by omega) (by omega)
theorem rawT_pb {deg : Int} (n:Nat) (r:Nat→Int) (h:0≤deg):PB (rawT deg n r) 1 2 deg:=sclL_pb (one_pb (expE_in r h n)) (tmod_sz _)
theorem madeTo_pb {deg : Int} {n:Nat} (h:0≤deg):∀ (X:List (Nat→Int)) (A:List Tm) (k K:Nat),PB A k K deg→PB (X.foldl (fun a r=>mrg a (rawT deg n r)) A) (k+X.length) (K+X.length*3) deg
 | [],A,k,K,h=>h
 | r :: X,A,k,K,hA=>by
  have h1:=(hA.add (rawT_pb n r h)).mono (Nat.le_refl _) (Nat.le_refl _) (Int.max_le.2 ⟨Int.le_refl _,Int.le_refl _⟩)
  have:=madeTo_pb (n:=n) h X _ _ _ h1
  exact this.mono (by simp;omega) (by simp;omega) (Int.le_refl _)
theorem madeP_pb (X : List (Nat→Int)) (n:Nat) {deg:Int} (terms:Nat) (h:0≤deg):PB (madeP X n deg terms) terms (terms*3) deg:=by
 have:=madeTo_pb (n:=min n 4) h (X.take (min X.length terms)) [] 0 0 PB.nil
 have hl:(X.take (min X.length terms)).length≤terms:=by rw [List.length_take];omega
 exact this.mono (by omega) (by omega) (Int.le_refl _)
theorem madeTo_take_pb (X : List (Nat→Int)) (n:Nat) {deg:Int} {terms k:Nat} (h:0≤deg) (hk:k≤terms):PB (madeTo deg n (X.take k)) terms (terms*3) deg:=by
 have:=madeTo_pb (n:=n) h (X.take k) [] 0 0 PB.nil
 have hl:(X.take k).length≤terms:=by rw [List.length_take];omega
 exact this.mono (by omega) (by omega) (Int.le_refl _)
theorem foldl_i5 {α : Type} (f:α→(Nat→Int)→α) (b:α) {X:List (Nat→Int)} {k:Nat} (h:k<X.length):(X.take (k+1)).foldl f b = f ((X.take k).foldl f b) (i5At X k):=by
 have e:X.take (k+1) = X.take k ++ [i5At X k]:=by
  rw [List.take_add_one,List.getElem?_eq_getElem h,i5At,List.getD_eq_getElem?_getD,List.getElem?_eq_getElem h]
  rfl
 rw [e,List.foldl_append]
 rfl
def Raw8 (X : List (Nat→Int)):Prop:=∀ r∈X,∀ j,j<5→-128≤r j∧r j≤127
theorem RMade_abs (T : Nat) (X:List (Nat→Int)) (n terms:Nat) (deg:Int) (hX:Raw8 X) (hn:n≤8) (ht:terms≤1000) (h0:0≤deg) (hd:deg≤1000):Abs Tryz.prog 41 [agD [r5D T X],ex (.int .i64 (n:Nat)),ex (.int .i64 deg),ex (.int .i64 (terms:Nat))] (polD (madeP X n deg terms)):=by
 refine Abs.intro Tryz.func41 rfl (callFunc_run Tryz.func41 (by kernel_rfl) (by kernel_rfl)) rfl fun s0=>?_
 rw [Tryz.ntmps41]
 repeat (first | apply AWp.seq | apply AWp.region | (apply Ga.box;refine AWs.bx (ao rfl) rfl rfl rfl rfl ?_) | (apply Ga.b0;refine AWs.b0 (tab_of rfl) (tab_of rfl) rfl rfl rfl rfl rfl ?_) | (refine AWs.q rfl rfl ?_;(apply Gt.assign;refine ⟨_,Qs.assign (ao rfl),?_⟩)) | apply AWl.nil | apply AThen.normal | apply AWp.block)
 refine AWp.loop (fun mz σ=>∃ k,k≤min X.length terms∧mz = min X.length terms - k∧σ = ⟨[(1,.d (ex (.int .i64 (n:Nat)))),(2,.d (ex (.int .i64 deg))),(3,.d (ex (.int .i64 (terms:Nat)))),(4,.ptr 0 0),(9,.d (polD (madeTo deg (min n 4) (X.take k)))),(10,.d (ex (.int .i64 (k:Nat))))],[.var 37 ([r5D T X].map .d)]⟩) ?le ⟨0,by omega,rfl,rfl⟩ ?round
 case le=>exact AS.le_of (by repeat (first | exact FrLe.nil | refine FrLe.cons rfl (AVle.d rfl) ?_ | refine FrLe.cons rfl (AVle.ptr rfl) ?_ | refine FrLe.cons rfl (AVle.ownD rfl (D.le.refl _)) ?_)) (by repeat (first | exact HpLe.nil | refine HpLe.cons (OwLe.varD rfl) ?_))
 case round =>
  rintro mz _ ⟨k,hk,rfl,rfl⟩
  by_cases hlt:k<min X.length terms
  ·have hkX : k < X.length := by omega
   have hkt:k<terms:=by omega
   repeat (first | apply AWp.seq | apply AWp.region | (apply Ga.alloc;refine AWs.al (tab_of rfl) rfl rfl rfl rfl rfl rfl ?_) | (apply Ga.store;refine AWs.stF (ao rfl) (ao rfl) rfl (tab_of rfl) rfl rfl rfl ?_) | (refine AWs.q rfl rfl ?_;first | (apply Gt.move;refine ⟨_,Qs.move (ao rfl),?_⟩) | (apply Gt.assign;refine ⟨_,Qs.assign (ao rfl),?_⟩) | (apply Gt.load;refine ⟨_,Qs.ldD1 (ao rfl) rfl (tab_of rfl) rfl rfl,?_⟩) | (apply Gt.fieldAddr;refine ⟨_,Qs.fldP (ao rfl) (tab_of rfl) rfl (tab_of rfl) rfl,?_⟩) | (apply Gt.len;refine ⟨_,Qs.lenN rfl (tab_of rfl),?_⟩) | (apply Gt.bin;refine ⟨_,Qs.cmpT rfl (ao rfl) (ao rfl) (by first | (simp only [cmpP,List.length_cons,List.length_nil];omega) | (simp [cmpP];done) | (simp [cmpP];omega)),?_⟩) | (apply Gt.pick;refine ⟨_,Qs.pickT (ao rfl) (ao rfl),?_⟩) | (apply Gt.build;(refine Bq.arr (tab_of rfl) (tab_of rfl) rfl rfl ?_;(repeat ((first | refine ⟨_,PartOk.ag (ao rfl),?_⟩ | refine ⟨_,PartOk.one rfl (by first | exact One.ex_ rfl | exact One.sl | exact One.ep),?_⟩);refine ⟨_,rfl,?_⟩));refine ⟨_,rfl,?_⟩))) | (refine AWs.qG rfl rfl rfl rfl rfl ?_;first | (apply Gt.move;refine ⟨_,Qs.move (ao rfl),?_⟩) | (apply Gt.bin;refine ⟨_,Qs.cmpT rfl (ao rfl) (ao rfl) (by first | (simp only [cmpP,List.length_cons,List.length_nil];omega) | (simp [cmpP];done) | (simp [cmpP];omega)),?_⟩)) | apply AWl.nil | apply AThen.normal | apply AWp.block | apply AWp.skip | (apply Gc.cond;refine AWp.condT (ao rfl) ?_))
   refine AWp.loop (fun mz σ=>∃ i,i≤min n 4∧mz = min n 4 - i∧σ = ⟨[(1,.d (ex (.int .i64 (n:Nat)))),(2,.d (ex (.int .i64 deg))),(3,.d (ex (.int .i64 (terms:Nat)))),(4,.ptr 0 0),(9,.d (polD (madeTo deg (min n 4) (X.take k)))),(10,.d (ex (.int .i64 (k:Nat)))),(11,.ptr 1 0),(12,.d (ex (.int .i64 (lft deg (i5At X k) i)))),(13,.d (ex (.int .i64 (i:Nat))))],[.var 37 ([r5D T X].map .d),.var 31 ((monC (expE deg (i5At X k) i)).map .d)]⟩) ?lei ⟨0,by omega,rfl,rfl⟩ ?roundi
   case lei=>exact AS.le_of (by repeat (first | exact FrLe.nil | refine FrLe.cons rfl (AVle.d rfl) ?_ | refine FrLe.cons rfl (AVle.ptr rfl) ?_)) (by repeat (first | exact HpLe.nil | refine HpLe.cons (OwLe.varD rfl) ?_))
   case roundi =>
    rintro mz _ ⟨i,hi,rfl,rfl⟩
    by_cases hlti:i<min n 4
    ·have hl:=lft_in (i5At X k) h0 i
     have hr:=hX _ (i5At_mem hkX) (i+1) (by omega)
     have hs:setM (expE deg (i5At X k) i) i (((i5At X k (i+1)).natAbs:Nat) % (lft deg (i5At X k) i+1)) i = ((i5At X k (i+1)).natAbs:Nat) % (lft deg (i5At X k) i+1):=if_pos rfl
     have he1:=Int.emod_nonneg ((i5At X k (i+1)).natAbs:Int) (show lft deg (i5At X k) i+1 ≠ 0 by omega)
     have he2:=Int.emod_lt_of_pos ((i5At X k (i+1)).natAbs:Int) (show 0<lft deg (i5At X k) i+1 by omega)
     repeat (first | refine AWs.q rfl rfl ?_;refine ⟨_,Qs.succL (ao rfl) (ao rfl) (by omega),?_⟩ | refine AWs.q rfl rfl ?_;refine ⟨_,Qs.ldEX1 (ao rfl) (tab_of rfl) rfl (CellAt.r5 (show i+1<5 by omega)),?_⟩ | apply AWp.seq | apply AWp.region | (apply Ga.store;refine AWs.stX1 (ao rfl) (ao rfl) rfl (tab_of rfl) (by first | exact One.ex_ rfl | exact One.sl | exact One.ep) (SetAt.mon (by first | omega | (simp;omega))) rfl ?_) | (refine AWs.q rfl rfl ?_;first | (apply Gt.move;refine ⟨_,Qs.move (ao rfl),?_⟩) | (apply Gt.assign;refine ⟨_,Qs.assign (ao rfl),?_⟩) | (apply Gt.load;first | refine ⟨_,Qs.ldD1 (ao rfl) rfl (tab_of rfl) rfl rfl,?_⟩ | refine ⟨_,Qs.ldX1 (ao rfl) rfl (tab_of rfl) rfl (CellAt.mon0 (by first | omega | (simp;omega))),?_⟩) | (apply Gt.fieldAddr;refine ⟨_,Qs.fldP (ao rfl) (tab_of rfl) rfl (tab_of rfl) rfl,?_⟩) | (apply Gt.indexAddr;first | refine ⟨_,Qs.indexN rfl (ao rfl) (tab_of rfl) (tab_of rfl) rfl (by first | omega | (simp;omega)),?_⟩ | refine ⟨_,Qs.ixP (ao rfl) (ao rfl) (tab_of rfl) (tab_of rfl) (by first | omega | (simp;omega)),?_⟩ | refine ⟨_,Qs.ixE (ao rfl) (ao rfl) (tab_of rfl) (tab_of rfl) (by first | omega | (simp;omega)),?_⟩) | (apply Gt.add;first | refine ⟨_,Qs.succ (ao rfl) (ao rfl) (by omega),?_⟩ | refine ⟨_,Qs.add (ao rfl) (ao rfl) (by omega) (by omega),?_⟩) | (apply Gt.sub;refine ⟨_,Qs.sub (ao rfl) (ao rfl) (by omega) (by omega),?_⟩) | (apply Gt.rem;refine ⟨_,Qs.rem (ao rfl) (ao rfl) (by omega) (by omega),?_⟩) | (apply Gt.bin;refine ⟨_,Qs.cmpT rfl (ao rfl) (ao rfl) (by first | (simp only [cmpP,List.length_cons,List.length_nil];omega) | (simp [cmpP];done) | (simp [cmpP];omega)),?_⟩) | (apply Gt.pick;refine ⟨_,Qs.pickT (ao rfl) (ao rfl),?_⟩) | (apply Gt.callv;refine ⟨_,Qs.call (ao rfl) (Rabs_abs (i5At X k (i+1)) hr.1 hr.2) (by first | ((repeat (first | exact ArgsLe.nil | refine ArgsLe.cons rfl (D.le.refl _) ?_ | refine ArgsLe.cons rfl D.le_nil ?_));done) | fail),?_⟩)) | (refine AWs.qG rfl rfl rfl rfl rfl ?_;first | (apply Gt.move;refine ⟨_,Qs.move (ao rfl),?_⟩) | (apply Gt.bin;refine ⟨_,Qs.cmpT rfl (ao rfl) (ao rfl) (by first | (simp only [cmpP,List.length_cons,List.length_nil];omega) | (simp [cmpP];done) | (simp [cmpP];omega)),?_⟩)) | apply AWl.nil | apply AThen.normal | apply AWp.block | apply AWp.skip | apply ABlock.normal | (apply Gc.cond;refine AWp.condT (ao rfl) ?_))
     refine ALoop.next (min n 4 - (i+1)) (by omega) ⟨i+1,by omega,rfl,rfl⟩ ?_
     exact AS.le_of (by repeat (first | exact FrLe.nil | refine FrLe.cons rfl (AVle.d rfl) ?_ | refine FrLe.cons rfl (AVle.ptr rfl) ?_ | refine FrLe.cons rfl (AVle.int (by rw [hs];rfl)) ?_)) (by repeat (first | exact HpLe.nil | refine HpLe.cons (OwLe.varD (by rw [expE_set])) ?_ | refine HpLe.cons (OwLe.varD rfl) ?_))
    ·obtain rfl : i = min n 4 := by omega
     have hrm:=i5At_mem hkX
     have hr0:=hX _ hrm 0 (by omega)
     have h4:=tmod4 (i5At X k 0)
     have h4':-3≤Int.tmod (X.getD k default 0) 4∧Int.tmod (X.getD k default 0) 4≤3:=h4
     have hb:=madeTo_take_pb X (min n 4) (terms:=terms) h0 (Nat.le_of_lt hkt)
     have hbl:=hb.len
     have ht:=rawT_pb (min n 4) (i5At X k) h0
     have htl:=ht.len
     have h1:=one_pb (expE_in (i5At X k) h0 (min n 4))
     have hz:(i5At X k 0).tmod 4 = IntKind.i64.wrap ((i5At X k 0).tmod 4):=(IntWalk.i64_in _ (by omega)).symm
     have hst:madeTo deg (min n 4) (X.take (k+1)) = mrg (madeTo deg (min n 4) (X.take k)) (rawT deg (min n 4) (i5At X k)):=foldl_i5 (fun a r=>mrg a (rawT deg (min n 4) r)) [] hkX
     rcases (show n≤4∨4<n by omega) with hn4 | hn4
     all_goals
      repeat (first | apply AWp.seq | apply AWp.region | (refine AWs.q rfl rfl ?_;first | (apply Gt.move;refine ⟨_,Qs.move (ao rfl),?_⟩) | (apply Gt.bin;first | refine ⟨_,Qs.cmpT rfl (ao rfl) (ao rfl) (by first | (simp only [cmpP,List.length_cons,List.length_nil];omega) | (simp [cmpP];done) | (simp [cmpP];omega)),?_⟩ | refine ⟨_,Qs.cmpF rfl (ao rfl) (ao rfl) (by first | (simp only [cmpP,List.length_cons,List.length_nil];omega) | (simp [cmpP];done) | (simp [cmpP];omega)),?_⟩) | (apply Gt.pick;first | refine ⟨_,Qs.pickT (ao rfl) (ao rfl),?_⟩ | refine ⟨_,Qs.pickF (ao rfl) (ao rfl),?_⟩)) | refine AWs.sG rfl rfl rfl rfl rfl ?_ | (refine AWs.qG rfl rfl rfl rfl rfl ?_;first | (apply Gt.move;refine ⟨_,Qs.move (ao rfl),?_⟩) | (apply Gt.bin;refine ⟨_,Qs.cmpF rfl (ao rfl) (ao rfl) (by first | (simp only [cmpP,List.length_cons,List.length_nil];omega) | (simp [cmpP];done) | (simp [cmpP];omega)),?_⟩)) | apply AWl.nil | apply AThen.normal | apply AWp.exit | apply AThen.exit | apply ABlock.hit | apply ALoop.exit | (apply Gc.cond;refine AWp.condF (ao rfl) ?_))
      refine AWp.dr' (DrawOk.self (by kernel_rfl)) [[],[],[(58,1)],[],[(59,2),(60,3)],[(61,4)],[(62,5)],[(63,6)],[(64,7)],[(65,8)],[],[],[(67,10),(68,11)],[(69,12)],[(66,9),(70,13)],[(57,0),(71,14)]] [[],[],[1],[],[1,2,3],[1,2,3,4],[1,2,3,4,5],[1,2,3,4,5,6],[1,2,3,4,5,6,7],[1,2,3,4,5,6,7,8],[1,2,3,4,5,6,7,8,9],[],[1,2,3,4,5,6,7,8,9,10,11],[1,2,3,4,5,6,7,8,9,10,11,12],[1,2,3,4,5,6,7,8,9,10,11,12,13],[0,1,2,3,4,5,6,7,8,9,10,11,12,13,14]] rfl (by kernel_rfl) (by kernel_rfl) (by kernel_rfl) ?_
      repeat (first | refine ⟨_,rfl,?_⟩ | (apply Gh.move;(refine ⟨_,HStep.q rfl (Qs.move (ah rfl)),?_⟩;refine ⟨_,rfl,?_⟩)) | (apply Gh.load;first | (refine ⟨_,HStep.q rfl (Qs.ldD (ah rfl) rfl (tab_of rfl) rfl rfl),?_⟩;refine ⟨_,rfl,?_⟩) | (refine ⟨_,HStep.q rfl (Qs.ldD1 (ah rfl) rfl (tab_of rfl) rfl rfl),?_⟩;refine ⟨_,rfl,?_⟩) | (refine ⟨_,HStep.q rfl (Qs.ldE1 (ah rfl) (tab_of rfl) rfl rfl),?_⟩;refine ⟨_,rfl,?_⟩)) | (apply Gh.fieldAddr;(refine ⟨_,HStep.q rfl (Qs.fldP (ah rfl) (tab_of rfl) rfl (tab_of rfl) rfl),?_⟩;refine ⟨_,rfl,?_⟩)) | (apply Gh.indexAddr;first | (refine ⟨_,HStep.q rfl (Qs.indexN rfl (ah rfl) (tab_of rfl) (tab_of rfl) rfl (by first | omega | (simp;omega))),?_⟩;refine ⟨_,rfl,?_⟩) | (refine ⟨_,HStep.q rfl (Qs.ixL (ah rfl) (ah rfl) (tab_of rfl) (tab_of rfl) (by decide) (by decide) rfl),?_⟩;refine ⟨_,rfl,?_⟩)) | (apply Gh.rem;(refine ⟨_,HStep.q rfl (Qs.remT (ah rfl) (ah rfl) (by decide)),?_⟩;refine ⟨_,rfl,?_⟩)) | (apply Gh.bslice;(refine ⟨_,HStep.q rfl (Bq.slice1 (ah rfl) (tab_of rfl) (tab_of rfl) rfl rfl rfl rfl rfl),?_⟩;refine ⟨_,rfl,?_⟩)) | (apply Gh.conv;(refine ⟨_,HStep.q rfl (Qs.conv64 (ah rfl) (tab_of rfl) (tab_of rfl) (by omega) (by omega)),?_⟩;refine ⟨_,rfl,?_⟩)) | (apply Gh.build;(refine Hq rfl ?_;refine Bq.build (tab_of rfl) rfl rfl rfl ?_;(repeat ((first | refine ⟨_,PartOk.ag (ah rfl),?_⟩ | refine ⟨_,PartOk.one rfl (by first | exact One.ex_ rfl | exact One.sl | exact One.ep),?_⟩);refine ⟨_,rfl,?_⟩));refine ⟨_,rfl,?_⟩;refine ⟨_,rfl,?_⟩)) | (apply Gh.callv;first | (refine ⟨_,HStep.q rfl (Qs.call (ah rfl) (RWhole_abs ((i5At X k 0).tmod 4) (by omega) (by omega)) (by first | ((repeat (first | exact ArgsLe.nil | refine ArgsLe.cons rfl (D.le.refl _) ?_ | refine ArgsLe.cons rfl D.le_nil ?_));done) | fail)),?_⟩;refine ⟨_,rfl,?_⟩) | (refine ⟨_,HStep.q rfl (Qs.call (ah rfl) (RWhole_abs 1 (by omega) (by omega)) (by first | ((repeat (first | exact ArgsLe.nil | refine ArgsLe.cons rfl (D.le.refl _) ?_ | refine ArgsLe.cons rfl D.le_nil ?_));done) | fail)),?_⟩;refine ⟨_,rfl,?_⟩) | (refine ⟨_,HStep.q rfl (Qs.call (ah rfl) (RScale_abs ((Int.tmod (i5At X k 0) 4:Int):Rat) [⟨1,expE deg (i5At X k) (min n 4)⟩] 1 1 (tmod_sz _) h1.sz (h1.ex.mono (Int.le_refl _) (by omega)) (by simp) (by omega)) (by first | ((repeat (first | exact ArgsLe.nil | refine ArgsLe.cons rfl (D.le.refl _) ?_ | refine ArgsLe.cons rfl D.le_nil ?_));done) | fail)),?_⟩;refine ⟨_,rfl,?_⟩) | (refine ⟨_,HStep.q rfl (Qs.call (ah rfl) (RAdd_pol (madeTo deg (min n 4) (X.take k)) (rawT deg (min n 4) (i5At X k)) (terms*3) 2 hb.sz ht.sz (by omega) (by omega)) (by first | ((repeat (first | exact ArgsLe.nil | refine ArgsLe.cons rfl (D.le.refl _) ?_ | refine ArgsLe.cons rfl D.le_nil ?_));done) | fail)),?_⟩;refine ⟨_,rfl,?_⟩)))
      repeat (first | apply AWp.region | (refine AWs.q rfl rfl ?_;first | (apply Gt.move;refine ⟨_,Qs.move (ao rfl),?_⟩) | (apply Gt.assign;refine ⟨_,Qs.assign (ao rfl),?_⟩) | (apply Gt.add;refine ⟨_,Qs.succ (ao rfl) (ao rfl) (by omega),?_⟩)) | apply AWl.nil | apply AThen.normal | apply ABlock.normal)
      refine ALoop.next (min X.length terms - (k+1)) (by omega) ⟨k+1,by omega,rfl,rfl⟩ ?_
      exact AS.le_of (by repeat (first | exact FrLe.nil | refine FrLe.cons rfl (AVle.d rfl) ?_ | refine FrLe.cons rfl (AVle.ptr rfl) ?_ | refine FrLe.cons rfl (AVle.le (D.le_pol hst.symm)) ?_)) (by repeat (first | exact HpLe.nil | refine HpLe.cons (OwLe.varD rfl) ?_))
  ·obtain rfl : k = min X.length terms := by omega
   rcases (show X.length≤terms∨terms<X.length by omega) with ht | ht
   all_goals
    repeat (first | apply AWp.seq | apply AWp.region | (refine AWs.q rfl rfl ?_;first | (apply Gt.move;refine ⟨_,Qs.move (ao rfl),?_⟩) | (apply Gt.assign;refine ⟨_,Qs.assign (ao rfl),?_⟩) | (apply Gt.load;refine ⟨_,Qs.ldD1 (ao rfl) rfl (tab_of rfl) rfl rfl,?_⟩) | (apply Gt.fieldAddr;refine ⟨_,Qs.fldP (ao rfl) (tab_of rfl) rfl (tab_of rfl) rfl,?_⟩) | (apply Gt.len;refine ⟨_,Qs.lenN rfl (tab_of rfl),?_⟩) | (apply Gt.bin;first | refine ⟨_,Qs.cmpT rfl (ao rfl) (ao rfl) (by first | (simp only [cmpP,List.length_cons,List.length_nil];omega) | (simp [cmpP];done) | (simp [cmpP];omega)),?_⟩ | refine ⟨_,Qs.cmpF rfl (ao rfl) (ao rfl) (by first | (simp only [cmpP,List.length_cons,List.length_nil];omega) | (simp [cmpP];done) | (simp [cmpP];omega)),?_⟩) | (apply Gt.pick;first | refine ⟨_,Qs.pickT (ao rfl) (ao rfl),?_⟩ | refine ⟨_,Qs.pickF (ao rfl) (ao rfl),?_⟩)) | refine AWs.sG rfl rfl rfl rfl rfl ?_ | (refine AWs.qG rfl rfl rfl rfl rfl ?_;first | (apply Gt.move;refine ⟨_,Qs.move (ao rfl),?_⟩) | (apply Gt.bin;refine ⟨_,Qs.cmpF rfl (ao rfl) (ao rfl) (by first | (simp only [cmpP,List.length_cons,List.length_nil];omega) | (simp [cmpP];done) | (simp [cmpP];omega)),?_⟩)) | apply AWl.nil | apply AThen.normal | apply AWp.exit | apply AWp.ret | apply AThen.exit | apply ABlock.hit | apply ALoop.exit | (apply Gc.cond;refine AWp.condF (ao rfl) ?_))
    exact Fin.ret (Rets.of1 (ResV.tmp rfl rfl) (D.le.refl _))
end Go.Proofs.YteicdddphdomkaaGreat
namespace Go.Proofs.YteicdddphdomkaaGreat
open Go.RowKit
set_option maxRecDepth 100000
def degL (P : List Tm):Int:=P.foldl (fun d t=>max d (sumTo t.m 8)) (-1)
theorem degL_take {P : List Tm} {k:Nat} (h:k<P.length):degL (P.take (k+1)) = max (degL (P.take k)) (sumTo (tAt P k).m 8):=foldl_tAt (fun d t=>max d (sumTo t.m 8)) (-1) h
theorem PDeg_abs (P : List Tm) (hP:PIn P 0 65535) (hn:P.length≤1000000):Abs Tryz.prog 37 [polD P] (ex (.int .i64 (degL P))):=by
 refine Abs.intro Tryz.func37 rfl (callFunc_run Tryz.func37 (by kernel_rfl) (by kernel_rfl)) rfl fun s0=>?_
 rw [Tryz.ntmps37]
 apply AWp.seq;apply AWp.region;refine Wq Qz.assign ?_;apply AWl.nil;apply AThen.normal;apply AWp.seq;apply AWp.region;refine Wq Qz.assign ?_;apply AWl.nil;apply AThen.normal;apply AWp.seq;apply AWp.seq;apply AWp.region;refine Wq Qz.move ?_;refine Wq Qz.lenN ?_;refine Wq Qz.move ?_;apply AWl.nil;apply AThen.normal;apply AWp.block
 refine AWp.loop (fun mz σ=>∃ k,k≤P.length∧mz = P.length - k∧σ = ⟨[(3,.d (ex (.int .i64 (degL (P.take k))))),(6,.d (polD P)),(7,.d (ex (.int .i64 (P.length:Nat)))),(8,.d (ex (.int .i64 (k:Nat))))],[]⟩) ?le ⟨0,by omega,rfl,rfl⟩ ?round
 case le=>exact AS.le_of (by refine FrLe.cons rfl (AVle.d rfl) ?_;refine FrLe.cons rfl (AVle.d rfl) ?_;refine FrLe.cons rfl (AVle.d rfl) ?_;refine FrLe.cons rfl (AVle.d rfl) ?_;exact FrLe.nil) (by exact HpLe.nil)
 case round =>
  rintro mz _ ⟨k,hk,rfl,rfl⟩
  by_cases hlt:k<P.length
  ·have hin:=hP _ (tAt_mem hlt)
   have hst:=degL_take hlt
   apply AWp.seq;apply AWp.region;refine Wq Qz.cmpT ?_;apply AWl.nil;apply AThen.normal;apply AWp.seq;refine AWp.condT (ao rfl) ?_;apply AWp.skip;apply AThen.normal;apply AWp.seq;apply AWp.block;apply AWp.seq;apply AWp.region;refine Wq Qz.indexN ?_;refine Wq Qz.loadEf ?_;refine AWs.al (tab_of rfl) rfl rfl rfl rfl rfl rfl ?_;refine AWs.stF (ao rfl) (ao rfl) rfl (tab_of rfl) rfl rfl rfl ?_;apply AWl.nil;apply AThen.normal;apply AWp.region;refine Wq Qz.move ?_;refine Wq Qz.fldP ?_;refine Wq Qz.ldD ?_;refine Wq (Qz.call (mDegree_abs (tAt P k).m (hin.mono (by omega) (by omega)))) ?_;refine Wq Qz.max ?_;refine Wq Qz.assign ?_;apply AWl.nil;apply ABlock.normal;apply AThen.normal;apply AWp.region;refine Wq Qz.succ ?_;refine Wq Qz.move ?_;apply AWl.nil
   refine ALoop.next (P.length - (k+1)) (by omega) ⟨k+1,by omega,rfl,rfl⟩ ?_
   exact AS.le_of (by refine FrLe.cons rfl (AVle.int hst.symm) ?_;refine FrLe.cons rfl (AVle.d rfl) ?_;refine FrLe.cons rfl (AVle.d rfl) ?_;refine FrLe.cons rfl (AVle.d rfl) ?_;exact FrLe.nil) (by exact HpLe.nil)
  ·obtain rfl : k = P.length := by omega
   apply AWp.seq;apply AWp.region;refine Wq Qz.cmpF ?_;apply AWl.nil;apply AThen.normal;apply AWp.seq;refine AWp.condF (ao rfl) ?_;apply AWp.exit;apply AThen.exit;apply ALoop.exit;apply ABlock.hit;apply AThen.normal;apply AWp.seq;apply AWp.region;refine Wq Qz.move ?_;refine Wq Qz.assign ?_;apply AWl.nil;apply AThen.normal;apply AWp.ret
   exact Fin.ret (Rets.of1 (ResV.tmp rfl rfl) (D.le.of_eq (by rw [List.take_length])))
theorem RmDegree_abs (a : Nat→Int) (h:In8 a (-1000000) 1000000):Abs Tryz.prog 121 [agD (monC a)] (ex (.int .i64 (sumTo a 8))):=by
 refine Abs.intro Tryz.func121 rfl (callFunc_run Tryz.func121 (by kernel_rfl) (by kernel_rfl)) rfl fun s0=>?_
 rw [Tryz.ntmps121]
 apply AWp.seq;apply AWp.region;refine AWs.bx (ao rfl) rfl rfl rfl rfl ?_;refine Wq Qz.assign ?_;apply AWl.nil;apply AThen.normal;apply AWp.seq;apply AWp.region;refine Wq Qz.assign ?_;apply AWl.nil;apply AThen.normal;apply AWp.seq;apply AWp.seq;apply AWp.region;refine Wq Qz.assign ?_;apply AWl.nil;apply AThen.normal;apply AWp.block
 refine AWp.loop (fun mz σ=>∃ k,k≤8∧mz = 8 - k∧σ = ⟨[(1,.ptr 0 0),(3,.d (ex (.int .i64 (sumTo a k)))),(4,.d (ex (.int .i64 (k:Nat))))],[.var 31 ((monC a).map .d)]⟩) ?le ⟨0,by omega,rfl,rfl⟩ ?round
 case le=>exact AS.le_of (by refine FrLe.cons rfl (AVle.ptr rfl) ?_;refine FrLe.cons rfl (AVle.d rfl) ?_;refine FrLe.cons rfl (AVle.d rfl) ?_;exact FrLe.nil) (by refine HpLe.cons (OwLe.varD rfl) ?_;exact HpLe.nil)
 case round =>
  rintro mz _ ⟨k,hk,rfl,rfl⟩
  by_cases hlt:k<8
  ·have hk2:=h k hlt
   have hb:=sumTo_bound h k (by omega)
   apply AWp.seq;apply AWp.seq;apply AWp.region;refine Wq Qz.move ?_;refine Wq Qz.cmpT ?_;apply AWl.nil;apply AThen.normal;refine AWp.condT (ao rfl) ?_;apply AWp.skip;apply AThen.normal;apply AWp.seq;apply AWp.block;apply AWp.region;refine Wq Qz.move ?_;refine Wq Qz.move ?_;refine Wq Qz.ixP ?_;refine Wq Qz.ldX1 ?_;refine Wq Qz.add ?_;refine Wq Qz.assign ?_;apply AWl.nil;apply ABlock.normal;apply AThen.normal;apply AWp.region;refine Wq Qz.move ?_;refine Wq Qz.succ ?_;refine Wq Qz.assign ?_;apply AWl.nil
   refine ALoop.next (8 - (k+1)) (by omega) ⟨k+1,by omega,rfl,rfl⟩ ?_
   exact AS.le_of (by refine FrLe.cons rfl (AVle.ptr rfl) ?_;refine FrLe.cons rfl (AVle.d rfl) ?_;refine FrLe.cons rfl (AVle.d rfl) ?_;exact FrLe.nil) (by refine HpLe.cons (OwLe.varD rfl) ?_;exact HpLe.nil)
  ·obtain rfl : k = 8 := by omega
   apply AWp.seq;apply AWp.seq;apply AWp.region;refine Wq Qz.move ?_;refine Wq Qz.cmpF ?_;apply AWl.nil;apply AThen.normal;refine AWp.condF (ao rfl) ?_;apply AWp.exit;apply AThen.exit;apply ALoop.exit;apply ABlock.hit;apply AThen.normal;apply AWp.seq;apply AWp.region;refine Wq Qz.move ?_;refine Wq Qz.assign ?_;apply AWl.nil;apply AThen.normal;apply AWp.ret
   exact Fin.ret (Rets.of1 (ResV.tmp rfl rfl) (D.le.refl _))
theorem RDeg_abs (P : List Tm) (hP:PIn P 0 65535) (hn:P.length≤1000000):Abs Tryz.prog 61 [polD P] (ex (.int .i64 (degL P))):=by
 refine Abs.intro Tryz.func61 rfl (callFunc_run Tryz.func61 (by kernel_rfl) (by kernel_rfl)) rfl fun s0=>?_
 rw [Tryz.ntmps61]
 apply AWp.seq;apply AWp.region;refine Wq Qz.assign ?_;apply AWl.nil;apply AThen.normal;apply AWp.seq;apply AWp.region;refine Wq Qz.assign ?_;apply AWl.nil;apply AThen.normal;apply AWp.seq;apply AWp.seq;apply AWp.region;refine Wq Qz.assign ?_;apply AWl.nil;apply AThen.normal;apply AWp.block
 refine AWp.loop (fun mz σ=>∃ k,k≤P.length∧mz = P.length - k∧σ = ⟨[(0,.d (polD P)),(3,.d (ex (.int .i64 (degL (P.take k))))),(4,.d (ex (.int .i64 (k:Nat))))],[]⟩) ?le ⟨0,by omega,rfl,rfl⟩ ?round
 case le=>exact AS.le_of (by refine FrLe.cons rfl (AVle.d rfl) ?_;refine FrLe.cons rfl (AVle.d rfl) ?_;refine FrLe.cons rfl (AVle.d rfl) ?_;exact FrLe.nil) (by exact HpLe.nil)
 case round =>
  rintro mz _ ⟨k,hk,rfl,rfl⟩
  by_cases hlt:k<P.length
  ·have hin:=hP _ (tAt_mem hlt)
   have hst:=degL_take hlt
   apply AWp.seq;apply AWp.seq;apply AWp.region;refine Wq Qz.move ?_;refine Wq Qz.move ?_;refine Wq Qz.lenN ?_;refine Wq Qz.cmpT ?_;apply AWl.nil;apply AThen.normal;refine AWp.condT (ao rfl) ?_;apply AWp.skip;apply AThen.normal;apply AWp.seq;apply AWp.block;apply AWp.region;refine Wq Qz.move ?_;refine Wq Qz.move ?_;refine Wq Qz.move ?_;refine Wq Qz.indexN ?_;refine Wq Qz.fldE ?_;refine Wq Qz.loadEf ?_;refine Wq (Qz.call (RmDegree_abs (tAt P k).m (hin.mono (by omega) (by omega)))) ?_;refine Wq Qz.max ?_;refine Wq Qz.assign ?_;apply AWl.nil;apply ABlock.normal;apply AThen.normal;apply AWp.region;refine Wq Qz.move ?_;refine Wq Qz.succ ?_;refine Wq Qz.assign ?_;apply AWl.nil
   refine ALoop.next (P.length - (k+1)) (by omega) ⟨k+1,by omega,rfl,rfl⟩ ?_
   exact AS.le_of (by refine FrLe.cons rfl (AVle.d rfl) ?_;refine FrLe.cons rfl (AVle.int hst.symm) ?_;refine FrLe.cons rfl (AVle.d rfl) ?_;exact FrLe.nil) (by exact HpLe.nil)
  ·obtain rfl : k = P.length := by omega
   apply AWp.seq;apply AWp.seq;apply AWp.region;refine Wq Qz.move ?_;refine Wq Qz.move ?_;refine Wq Qz.lenN ?_;refine Wq Qz.cmpF ?_;apply AWl.nil;apply AThen.normal;refine AWp.condF (ao rfl) ?_;apply AWp.exit;apply AThen.exit;apply ALoop.exit;apply ABlock.hit;apply AThen.normal;apply AWp.seq;apply AWp.region;refine Wq Qz.move ?_;refine Wq Qz.assign ?_;apply AWl.nil;apply AThen.normal;apply AWp.ret
   exact Fin.ret (Rets.of1 (ResV.tmp rfl rfl) (D.le.of_eq (by rw [List.take_length])))
def twoP (k : Nat):Nat:=2 ^ k
theorem twoP_succ (k : Nat):twoP (k+1) = 2*twoP k:=by unfold twoP;rw [Nat.pow_succ];omega
theorem twoP_le {k : Nat} (h:k<8):twoP k≤128:=Nat.pow_le_pow_right (n:=2) (by omega) (show k≤7 by omega)
theorem wrap_u8 {n : Nat} (h:n<256):IntKind.u8.wrap (n:Int) = n:=by
 unfold IntKind.wrap
 simp only [IntKind.signed,IntKind.bits]
 simp
 omega
theorem RBit_abs (i : Nat) (hi:i<8):Abs Tryz.prog 150 [ex (.int .i64 (i:Nat))] (ex (.int .u8 (twoP i:Nat))):=by
 refine Abs.intro Tryz.func150 rfl (callFunc_run Tryz.func150 (by kernel_rfl) (by kernel_rfl)) rfl fun s0=>?_
 rw [Tryz.ntmps150]
 apply AWp.seq;apply AWp.region;refine Wq Qz.assign ?_;apply AWl.nil;apply AThen.normal;apply AWp.seq;apply AWp.region;refine Wq Qz.assign ?_;apply AWl.nil;apply AThen.normal;apply AWp.seq;apply AWp.seq;apply AWp.region;refine Wq Qz.assign ?_;apply AWl.nil;apply AThen.normal;apply AWp.block
 refine AWp.loop (fun mz σ=>∃ k,k≤i∧mz = i - k∧σ = ⟨[(0,.d (ex (.int .i64 (i:Nat)))),(3,.d (ex (.int .i64 (twoP k:Nat)))),(4,.d (ex (.int .i64 (k:Nat))))],[]⟩) ?le ⟨0,by omega,rfl,rfl⟩ ?round
 case le=>exact AS.le_of (by refine FrLe.cons rfl (AVle.d rfl) ?_;refine FrLe.cons rfl (AVle.d rfl) ?_;refine FrLe.cons rfl (AVle.d rfl) ?_;exact FrLe.nil) (by exact HpLe.nil)
 case round =>
  rintro mz _ ⟨k,hk,rfl,rfl⟩
  by_cases hlt:k<i
  ·have hp := twoP_le (k := k) (by omega)
   have hs:(2:Int)*(twoP k:Int) = (twoP (k+1):Int):=by rw [twoP_succ];omega
   apply AWp.seq;apply AWp.seq;apply AWp.region;refine Wq Qz.move ?_;refine Wq Qz.move ?_;refine Wq Qz.cmpT ?_;apply AWl.nil;apply AThen.normal;refine AWp.condT (ao rfl) ?_;apply AWp.skip;apply AThen.normal;apply AWp.seq;apply AWp.block;apply AWp.region;refine Wq Qz.move ?_;refine Wq Qz.mul ?_;refine Wq Qz.assign ?_;apply AWl.nil;apply ABlock.normal;apply AThen.normal;apply AWp.region;refine Wq Qz.move ?_;refine Wq Qz.succ ?_;refine Wq Qz.assign ?_;apply AWl.nil
   refine ALoop.next (i - (k+1)) (by omega) ⟨k+1,by omega,rfl,rfl⟩ ?_
   exact AS.le_of (by refine FrLe.cons rfl (AVle.d rfl) ?_;refine FrLe.cons rfl (AVle.int hs) ?_;refine FrLe.cons rfl (AVle.d rfl) ?_;exact FrLe.nil) (by exact HpLe.nil)
  ·obtain rfl : k = i := by omega
   have hw:=wrap_u8 (n:=twoP k) (by have:=twoP_le hi;omega)
   apply AWp.seq;apply AWp.seq;apply AWp.region;refine Wq Qz.move ?_;refine Wq Qz.move ?_;refine Wq Qz.cmpF ?_;apply AWl.nil;apply AThen.normal;refine AWp.condF (ao rfl) ?_;apply AWp.exit;apply AThen.exit;apply ALoop.exit;apply ABlock.hit;apply AThen.normal;apply AWp.seq;apply AWp.region;refine Wq Qz.move ?_;refine Wq Qz.conv ?_;refine Wq Qz.assign ?_;apply AWl.nil;apply AThen.normal;apply AWp.ret
   exact Fin.ret (Rets.of1 (ResV.tmp rfl rfl) (D.le.of_eq (by rw [hw])))
theorem suppTo_add (a : Nat→Int) (k:Nat) (h:0<a k):suppTo a (k+1) = suppTo a k+twoP k:=by
 rw [suppTo,if_pos h,twoP]
 have h1:=suppTo_lt a k
 have h2:(suppTo a k) ||| 2 ^ k = 2 ^ k ||| (suppTo a k):=Nat.or_comm _ _
 rw [h2]
 have:=Nat.two_pow_add_eq_or_of_lt h1 1
 rw [Nat.mul_one] at this
 rw [← this];omega
theorem RSupport_abs (a : Nat→Int):Abs Tryz.prog 122 [agD (monC a)] (ex (.int .u8 (suppTo a 8:Nat))):=by
 refine Abs.intro Tryz.func122 rfl (callFunc_run Tryz.func122 (by kernel_rfl) (by kernel_rfl)) rfl fun s0=>?_
 rw [Tryz.ntmps122]
 apply AWp.seq;apply AWp.region;refine AWs.bx (ao rfl) rfl rfl rfl rfl ?_;refine Wq Qz.assign ?_;apply AWl.nil;apply AThen.normal;apply AWp.seq;apply AWp.region;refine Wq Qz.assign ?_;apply AWl.nil;apply AThen.normal;apply AWp.seq;apply AWp.seq;apply AWp.region;refine Wq Qz.assign ?_;apply AWl.nil;apply AThen.normal;apply AWp.block
 refine AWp.loop (fun mz σ=>∃ k,k≤8∧mz = 8 - k∧σ = ⟨[(1,.ptr 0 0),(3,.d (ex (.int .u8 (suppTo a k:Nat)))),(4,.d (ex (.int .i64 (k:Nat))))],[.var 31 ((monC a).map .d)]⟩) ?le ⟨0,by omega,rfl,rfl⟩ ?round
 case le=>exact AS.le_of (by refine FrLe.cons rfl (AVle.ptr rfl) ?_;refine FrLe.cons rfl (AVle.d rfl) ?_;refine FrLe.cons rfl (AVle.d rfl) ?_;exact FrLe.nil) (by refine HpLe.cons (OwLe.varD rfl) ?_;exact HpLe.nil)
 case round =>
  rintro mz _ ⟨k,hk,rfl,rfl⟩
  by_cases hlt:k<8
  ·by_cases hp:0<a k
   ·have hs:=suppTo_add a k hp
    have hl:suppTo a (k+1)<256:=Nat.lt_of_lt_of_le (suppTo_lt a (k+1)) (Nat.pow_le_pow_right (n:=2) (j:=8) (by omega) (by omega))
    have hw:IntKind.u8.wrap ((suppTo a k:Int)+(twoP k:Int)) = (suppTo a (k+1):Nat):=by
     rw [← wrap_u8 hl,hs,Int.natCast_add]
    apply AWp.seq;apply AWp.seq;apply AWp.region;refine Wq Qz.move ?_;refine Wq Qz.cmpT ?_;apply AWl.nil;apply AThen.normal;refine AWp.condT (ao rfl) ?_;apply AWp.skip;apply AThen.normal;apply AWp.seq;apply AWp.block;apply AWp.seq;apply AWp.region;refine Wq Qz.move ?_;refine Wq Qz.ixP ?_;refine Wq Qz.ldX1 ?_;refine Wq Qz.cmpT ?_;apply AWl.nil;apply AThen.normal;refine AWp.condT (ao rfl) ?_;apply AWp.region;refine Wq Qz.move ?_;refine Wq Qz.move ?_;refine Wq (Qz.call (RBit_abs k hlt)) ?_;(refine AWs.q rfl rfl ?_;refine ⟨_,Qs.addW (ao rfl) (ao rfl) hw,?_⟩);refine Wq Qz.assign ?_;apply AWl.nil;apply ABlock.normal;apply AThen.normal;apply AWp.region;refine Wq Qz.move ?_;refine Wq Qz.succ ?_;refine Wq Qz.assign ?_;apply AWl.nil
    refine ALoop.next (8 - (k+1)) (by omega) ⟨k+1,by omega,rfl,rfl⟩ ?_
    exact AS.le_of (by refine FrLe.cons rfl (AVle.ptr rfl) ?_;refine FrLe.cons rfl (AVle.d rfl) ?_;refine FrLe.cons rfl (AVle.d rfl) ?_;exact FrLe.nil) (by refine HpLe.cons (OwLe.varD rfl) ?_;exact HpLe.nil)
   ·have hs : suppTo a (k + 1) = suppTo a k := by rw [suppTo, if_neg hp]
    apply AWp.seq;apply AWp.seq;apply AWp.region;refine Wq Qz.move ?_;refine Wq Qz.cmpT ?_;apply AWl.nil;apply AThen.normal;refine AWp.condT (ao rfl) ?_;apply AWp.skip;apply AThen.normal;apply AWp.seq;apply AWp.block;apply AWp.seq;apply AWp.region;refine Wq Qz.move ?_;refine Wq Qz.ixP ?_;refine Wq Qz.ldX1 ?_;refine Wq Qz.cmpF ?_;apply AWl.nil;apply AThen.normal;refine AWp.condF (ao rfl) ?_;apply AWp.skip;apply ABlock.normal;apply AThen.normal;apply AWp.region;refine Wq Qz.move ?_;refine Wq Qz.succ ?_;refine Wq Qz.assign ?_;apply AWl.nil
    refine ALoop.next (8 - (k+1)) (by omega) ⟨k+1,by omega,rfl,rfl⟩ ?_
    exact AS.le_of (by refine FrLe.cons rfl (AVle.ptr rfl) ?_;refine FrLe.cons rfl (AVle.int (by rw [hs])) ?_;refine FrLe.cons rfl (AVle.d rfl) ?_;exact FrLe.nil) (by refine HpLe.cons (OwLe.varD rfl) ?_;exact HpLe.nil)
  ·obtain rfl : k = 8 := by omega
   apply AWp.seq;apply AWp.seq;apply AWp.region;refine Wq Qz.move ?_;refine Wq Qz.cmpF ?_;apply AWl.nil;apply AThen.normal;refine AWp.condF (ao rfl) ?_;apply AWp.exit;apply AThen.exit;apply ALoop.exit;apply ABlock.hit;apply AThen.normal;apply AWp.seq;apply AWp.region;refine Wq Qz.move ?_;refine Wq Qz.assign ?_;apply AWl.nil;apply AThen.normal;apply AWp.ret
   exact Fin.ret (Rets.of1 (ResV.tmp rfl rfl) (D.le.refl _))
theorem RUses_abs (P : List Tm) (hn:P.length≤1000000):Abs Tryz.prog 62 [polD P] (ex (.int .u8 (useL P:Nat))):=by
 refine Abs.intro Tryz.func62 rfl (callFunc_run Tryz.func62 (by kernel_rfl) (by kernel_rfl)) rfl fun s0=>?_
 rw [Tryz.ntmps62]
 apply AWp.seq;apply AWp.region;refine Wq Qz.assign ?_;apply AWl.nil;apply AThen.normal;apply AWp.seq;apply AWp.region;refine Wq Qz.assign ?_;apply AWl.nil;apply AThen.normal;apply AWp.seq;apply AWp.seq;apply AWp.region;refine Wq Qz.assign ?_;apply AWl.nil;apply AThen.normal;apply AWp.block
 refine AWp.loop (fun mz σ=>∃ k,k≤P.length∧mz = P.length - k∧σ = ⟨[(0,.d (polD P)),(3,.d (ex (.int .u8 (useL (P.take k):Nat)))),(4,.d (ex (.int .i64 (k:Nat))))],[]⟩) ?le ⟨0,by omega,rfl,rfl⟩ ?round
 case le=>exact AS.le_of (by refine FrLe.cons rfl (AVle.d rfl) ?_;refine FrLe.cons rfl (AVle.d rfl) ?_;refine FrLe.cons rfl (AVle.d rfl) ?_;exact FrLe.nil) (by exact HpLe.nil)
 case round =>
  rintro mz _ ⟨k,hk,rfl,rfl⟩
  by_cases hlt:k<P.length
  ·have h1:=useL_lt (P.take k)
   have h2:=suppTo_lt (tAt P k).m 8
   have h3:=useL_take hlt
   apply AWp.seq;apply AWp.seq;apply AWp.region;refine Wq Qz.move ?_;refine Wq Qz.move ?_;refine Wq Qz.lenN ?_;refine Wq Qz.cmpT ?_;apply AWl.nil;apply AThen.normal;refine AWp.condT (ao rfl) ?_;apply AWp.skip;apply AThen.normal;apply AWp.seq;apply AWp.block;apply AWp.region;refine Wq Qz.move ?_;refine Wq Qz.move ?_;refine Wq Qz.move ?_;refine Wq Qz.indexN ?_;refine Wq Qz.fldE ?_;refine Wq Qz.loadEf ?_;refine Wq (Qz.call (RSupport_abs (tAt P k).m)) ?_;refine Wq Qz.or8 ?_;refine Wq Qz.assign ?_;apply AWl.nil;apply ABlock.normal;apply AThen.normal;apply AWp.region;refine Wq Qz.move ?_;refine Wq Qz.succ ?_;refine Wq Qz.assign ?_;apply AWl.nil
   refine ALoop.next (P.length - (k+1)) (by omega) ⟨k+1,by omega,rfl,rfl⟩ ?_
   exact AS.le_of (by refine FrLe.cons rfl (AVle.d rfl) ?_;refine FrLe.cons rfl (AVle.int (by rw [h3])) ?_;refine FrLe.cons rfl (AVle.d rfl) ?_;exact FrLe.nil) (by exact HpLe.nil)
  ·obtain rfl : k = P.length := by omega
   apply AWp.seq;apply AWp.seq;apply AWp.region;refine Wq Qz.move ?_;refine Wq Qz.move ?_;refine Wq Qz.lenN ?_;refine Wq Qz.cmpF ?_;apply AWl.nil;apply AThen.normal;refine AWp.condF (ao rfl) ?_;apply AWp.exit;apply AThen.exit;apply ALoop.exit;apply ABlock.hit;apply AThen.normal;apply AWp.seq;apply AWp.region;refine Wq Qz.move ?_;refine Wq Qz.assign ?_;apply AWl.nil;apply AThen.normal;apply AWp.ret
   exact Fin.ret (Rets.of1 (ResV.tmp rfl rfl) (D.le.of_eq (by rw [List.take_length])))
theorem RLead0_abs (R : List (Nat→Int)):Abs Tryz.prog 119 [polD [],ordD R] (tupD [agD zeroT,ex (.bool false)]):=by
 refine Abs.intro Tryz.func119 rfl (callFunc_run Tryz.func119 (by kernel_rfl) (by kernel_rfl)) rfl fun s0=>?_
 rw [Tryz.ntmps119]
 apply AWp.seq;apply AWp.region;refine AWs.al (tab_of rfl) rfl rfl rfl rfl rfl rfl ?_;refine Wq Qz.assign ?_;apply AWl.nil;apply AThen.normal;apply AWp.seq;apply AWp.seq;apply AWp.region;refine Wq Qz.move ?_;refine Wq Qz.lenN ?_;refine Wq Qz.cmpT ?_;apply AWl.nil;apply AThen.normal;refine AWp.condT (ao rfl) ?_;apply AWp.seq;apply AWp.region;(refine AWs.q rfl rfl ?_;(refine Bq.build (tab_of rfl) rfl rfl rfl ?_;(repeat ((first | refine ⟨_,PartOk.ag (ao rfl),?_⟩ | refine ⟨_,PartOk.one rfl (by first | exact One.ex_ rfl | exact One.sl | exact One.ep),?_⟩);refine ⟨_,rfl,?_⟩));refine ⟨_,rfl,?_⟩));refine AWs.stF (ao rfl) (ao rfl) rfl (tab_of rfl) rfl rfl rfl ?_;refine Wq Qz.assign ?_;apply AWl.nil;apply AThen.normal;apply AWp.ret;apply AThen.ret
 exact Fin.ret (Rets.of2 (ResV.cell rfl rfl (tab_of rfl) rfl rfl rfl) (ResV.tmp rfl rfl) (D.le.tup2 (D.le.refl _) (D.le.refl _)))
theorem RLead_abs (s : Tm) (P:List Tm) (R:List (Nat→Int)) (hR:∀ r∈R,In8 r (-1000) 1000) (hP:PIn (s :: P) (-1000000) 1000000) (hn:P.length≤1000000):Abs Tryz.prog 119 [polD (s :: P),ordD R] (tupD [agD (tmC (leadF R s P)),ex (.bool true)]):=by
 refine Abs.intro Tryz.func119 rfl (callFunc_run Tryz.func119 (by kernel_rfl) (by kernel_rfl)) rfl fun s0=>?_
 rw [Tryz.ntmps119]
 apply AWp.seq;apply AWp.region;refine AWs.al (tab_of rfl) rfl rfl rfl rfl rfl rfl ?_;refine Wq Qz.assign ?_;apply AWl.nil;apply AThen.normal;apply AWp.seq;apply AWp.seq;apply AWp.region;refine Wq Qz.move ?_;refine Wq Qz.lenN ?_;refine Wq Qz.cmpF ?_;apply AWl.nil;apply AThen.normal;refine AWp.condF (ao rfl) ?_;apply AWp.skip;apply AThen.normal;apply AWp.seq;apply AWp.region;refine Wq Qz.move ?_;refine Wq Qz.index0 ?_;refine Wq Qz.loadEf ?_;refine AWs.al (tab_of rfl) rfl rfl rfl rfl rfl rfl ?_;refine AWs.stF (ao rfl) (ao rfl) rfl (tab_of rfl) rfl rfl rfl ?_;apply AWl.nil;apply AThen.normal;apply AWp.seq;apply AWp.seq;apply AWp.region;refine Wq Qz.assign ?_;apply AWl.nil;apply AThen.normal;apply AWp.block
 refine AWp.loop (fun mz σ=>∃ k,k≤P.length∧mz = P.length - k∧σ = ⟨[(0,.d (polD (s :: P))),(1,.d (ordD R)),(4,.ptr 0 0),(6,.ptr 1 0),(7,.d (ex (.int .i64 (k+1:Nat))))],[.var 33 (zeroT.map .d),.var 33 ((tmC (leadF R s (P.take k))).map .d)]⟩) ?le ⟨0,by omega,rfl,rfl⟩ ?round
 case le=>exact AS.le_of (by refine FrLe.cons rfl (AVle.d rfl) ?_;refine FrLe.cons rfl (AVle.d rfl) ?_;refine FrLe.cons rfl (AVle.ptr rfl) ?_;refine FrLe.cons rfl (AVle.ptr rfl) ?_;refine FrLe.cons rfl (AVle.d rfl) ?_;exact FrLe.nil) (by refine HpLe.cons (OwLe.varD rfl) ?_;refine HpLe.cons (OwLe.varD rfl) ?_;exact HpLe.nil)
 case round =>
  rintro mz _ ⟨k,hk,rfl,rfl⟩
  by_cases hlt:k<P.length
  ·have hin:=hP _ (List.mem_cons_of_mem _ (tAt_mem hlt))
   have hin':=hP _ (leadF_take_mem R s P k)
   have hst:=leadF_take R s hlt
   have hlen:k+1<(s :: P).length:=by simp;omega
   by_cases hc:0<oCmp R (tAt P k).m (leadF R s (P.take k)).m
   ·rw [upT,if_pos hc] at hst
    apply AWp.seq;apply AWp.seq;apply AWp.region;refine Wq Qz.move ?_;refine Wq Qz.move ?_;refine Wq Qz.lenN ?_;refine Wq Qz.cmpT ?_;apply AWl.nil;apply AThen.normal;refine AWp.condT (ao rfl) ?_;apply AWp.skip;apply AThen.normal;apply AWp.seq;apply AWp.block;apply AWp.seq
    refine AWp.dr' (DrawOk.self (by kernel_rfl)) [[],[],[],[(22,1),(23,2)],[(24,3)],[(25,4)],[],[(27,6)],[(21,0),(26,5),(28,7)],[(29,8)]] [[],[],[],[1,2],[1,2,3],[1,2,3,4],[],[6],[0,1,2,3,4,5,6,7],[0,1,2,3,4,5,6,7,8]] rfl (by kernel_rfl) (by kernel_rfl) (by kernel_rfl) ?_
    refine Xq Qz.move ?_;refine Xq Qz.move ?_;refine Xq Qz.move ?_;refine Xq Qz.indexN ?_;refine Xq Qz.fldE ?_;refine Xq Qz.loadEf ?_;refine Xq Qz.fldP ?_;refine Xq Qz.ldD ?_;refine Xq (Qz.call (RCmp_abs R (tAt P k).m (leadF R s (P.take k)).m hR hin hin')) ?_;refine Xq Qz.cmpT ?_;refine ⟨_,rfl,?_⟩
    apply AWl.nil;apply AThen.normal;refine AWp.condT (ao rfl) ?_;apply AWp.region;refine Wq Qz.move ?_;refine Wq Qz.move ?_;refine Wq Qz.indexN ?_;refine Wq Qz.loadEf ?_;refine AWs.stF (ao rfl) (ao rfl) rfl (tab_of rfl) rfl rfl rfl ?_;apply AWl.nil;apply ABlock.normal;apply AThen.normal;apply AWp.region;refine Wq Qz.move ?_;refine Wq Qz.succ ?_;refine Wq Qz.assign ?_;apply AWl.nil
    refine ALoop.next (P.length - (k+1)) (by omega) ⟨k+1,by omega,rfl,rfl⟩ ?_
    exact AS.le_of (by refine FrLe.cons rfl (AVle.d rfl) ?_;refine FrLe.cons rfl (AVle.d rfl) ?_;refine FrLe.cons rfl (AVle.ptr rfl) ?_;refine FrLe.cons rfl (AVle.ptr rfl) ?_;refine FrLe.cons rfl (AVle.d rfl) ?_;exact FrLe.nil) (by refine HpLe.cons (OwLe.varD rfl) ?_;(refine HpLe.cons (OwLe.varD (by rw [hst] <;> rfl)) ?_);exact HpLe.nil)
   ·rw [upT,if_neg hc] at hst
    apply AWp.seq;apply AWp.seq;apply AWp.region;refine Wq Qz.move ?_;refine Wq Qz.move ?_;refine Wq Qz.lenN ?_;refine Wq Qz.cmpT ?_;apply AWl.nil;apply AThen.normal;refine AWp.condT (ao rfl) ?_;apply AWp.skip;apply AThen.normal;apply AWp.seq;apply AWp.block;apply AWp.seq
    refine AWp.dr' (DrawOk.self (by kernel_rfl)) [[],[],[],[(22,1),(23,2)],[(24,3)],[(25,4)],[],[(27,6)],[(21,0),(26,5),(28,7)],[(29,8)]] [[],[],[],[1,2],[1,2,3],[1,2,3,4],[],[6],[0,1,2,3,4,5,6,7],[0,1,2,3,4,5,6,7,8]] rfl (by kernel_rfl) (by kernel_rfl) (by kernel_rfl) ?_
    refine Xq Qz.move ?_;refine Xq Qz.move ?_;refine Xq Qz.move ?_;refine Xq Qz.indexN ?_;refine Xq Qz.fldE ?_;refine Xq Qz.loadEf ?_;refine Xq Qz.fldP ?_;refine Xq Qz.ldD ?_;refine Xq (Qz.call (RCmp_abs R (tAt P k).m (leadF R s (P.take k)).m hR hin hin')) ?_;refine Xq Qz.cmpF ?_;refine ⟨_,rfl,?_⟩
    apply AWl.nil;apply AThen.normal;refine AWp.condF (ao rfl) ?_;apply AWp.skip;apply ABlock.normal;apply AThen.normal;apply AWp.region;refine Wq Qz.move ?_;refine Wq Qz.succ ?_;refine Wq Qz.assign ?_;apply AWl.nil
    refine ALoop.next (P.length - (k+1)) (by omega) ⟨k+1,by omega,rfl,rfl⟩ ?_
    exact AS.le_of (by refine FrLe.cons rfl (AVle.d rfl) ?_;refine FrLe.cons rfl (AVle.d rfl) ?_;refine FrLe.cons rfl (AVle.ptr rfl) ?_;refine FrLe.cons rfl (AVle.ptr rfl) ?_;refine FrLe.cons rfl (AVle.d rfl) ?_;exact FrLe.nil) (by refine HpLe.cons (OwLe.varD rfl) ?_;(refine HpLe.cons (OwLe.varD (by rw [hst] <;> rfl)) ?_);exact HpLe.nil)
  ·obtain rfl : k = P.length := by omega
   apply AWp.seq;apply AWp.seq;apply AWp.region;refine Wq Qz.move ?_;refine Wq Qz.move ?_;refine Wq Qz.lenN ?_;refine Wq Qz.cmpF ?_;apply AWl.nil;apply AThen.normal;refine AWp.condF (ao rfl) ?_;apply AWp.exit;apply AThen.exit;apply ALoop.exit;apply ABlock.hit;apply AThen.normal;apply AWp.seq;apply AWp.region;refine Wq Qz.ldD ?_;refine AWs.stF (ao rfl) (ao rfl) rfl (tab_of rfl) rfl rfl rfl ?_;refine Wq Qz.assign ?_;apply AWl.nil;apply AThen.normal;apply AWp.ret
   exact Fin.ret (Rets.of2 (ResV.cell rfl rfl (tab_of rfl) rfl rfl rfl) (ResV.tmp rfl rfl) (D.le.tup2 (D.le.of_eq (by rw [List.take_length];rfl)) (D.le.refl _)))
end Go.Proofs.YteicdddphdomkaaGreat
namespace Go.Proofs.YteicdddphdomkaaGreat
open Go.RowKit
theorem sub_sim {P Q P' Q':List Tm} (h:Sim P P') (k:Sim Q Q'):Sim (psub P Q) (P' ++ neg Q'):=(mrg_sim _ _).trans (h.append (neg_sim k))
theorem add_sim {P Q P' Q':List Tm} (h:Sim P P') (k:Sim Q Q'):Sim (mrg P Q) (P' ++ Q'):=(mrg_sim _ _).trans (h.append k)
theorem mul_sim {P Q P' Q':List Tm} (h:Sim P P') (k:Sim Q Q'):Sim (pmul P Q) (mulL P' Q'):=(pmul_sim _ _).trans (h.mul k)
theorem constL_one : constL (1:Int) = [⟨1,fun _=>0⟩]:=by
 rw [constL,if_neg (by decide)]
 rfl
theorem pmul_comm (P Q:List Tm):Sim (pmul P Q) (pmul Q P):=(pmul_sim _ _).trans ((mulL_comm P Q).trans (pmul_sim _ _).symm)
end Go.Proofs.YteicdddphdomkaaGreat
namespace Go.Proofs.YteicdddphdomkaaGreat
open Go.RowKit
set_option maxRecDepth 100000
theorem got_abs (P : List Tm):Abs Tryz.prog 17 [polD P,ex (.int .i64 0)] (polD P):=by
 refine Abs.intro Tryz.func17 rfl (callFunc_run Tryz.func17 (by kernel_rfl) (by kernel_rfl)) rfl fun s0=>?_
 rw [Tryz.ntmps17]
 repeat (first | apply AWp.seq | apply AWp.region | (refine AWs.q rfl rfl ?_;first | (apply Gt.move;refine ⟨_,Qs.move (ao rfl),?_⟩) | (apply Gt.assign;refine ⟨_,Qs.assign (ao rfl),?_⟩) | (apply Gt.bin;refine ⟨_,Qs.cmpF rfl (ao rfl) (ao rfl) (by first | (simp only [cmpP,List.length_cons,List.length_nil];omega) | (simp [cmpP];done) | (simp [cmpP];omega)),?_⟩)) | apply AWl.nil | apply AThen.normal | apply AWp.skip | apply AWp.ret | (apply Gc.cond;refine AWp.condF (ao rfl) ?_))
 exact Fin.ret (Rets.of1 (ResV.tmp rfl rfl) (D.le.refl _))
theorem poly_abs (T : Nat) (X:List (Nat→Int)) (hX:Raw8 X):Abs Tryz.prog 16 [agD [r5D T X]] (polD (madeP X 4 5 6)):=by
 refine Abs.intro Tryz.func16 rfl (callFunc_run Tryz.func16 (by kernel_rfl) (by kernel_rfl)) rfl fun s0=>?_
 rw [Tryz.ntmps16]
 repeat (first | apply AWp.seq | apply AWp.region | (apply Ga.box;refine AWs.bx (ao rfl) rfl rfl rfl rfl ?_) | (refine AWs.q rfl rfl ?_;first | (apply Gt.assign;refine ⟨_,Qs.assign (ao rfl),?_⟩) | (apply Gt.load;refine ⟨_,Qs.ldD (ao rfl) rfl (tab_of rfl) rfl rfl,?_⟩) | (apply Gt.callv;refine ⟨_,Qs.call (ao rfl) (RMade_abs T X 4 6 5 hX (by omega) (by omega) (by omega) (by omega)) (by first | ((repeat (first | exact ArgsLe.nil | refine ArgsLe.cons rfl (D.le.refl _) ?_ | refine ArgsLe.cons rfl D.le_nil ?_));done) | fail),?_⟩)) | apply AWl.nil | apply AThen.normal | apply AWp.ret)
 exact Fin.ret (Rets.of1 (ResV.tmp rfl rfl) (D.le.refl _))
def xT : Tm:=⟨1,unitE 0⟩
def yT : Tm:=⟨1,unitE 1⟩
def yyT : Tm:=⟨1*1,add8 (unitE 1) (unitE 1)⟩
theorem var_pb (i : Nat):PB [⟨1,unitE i⟩] 1 1 1:=one_pb unitE_in
theorem one_pol : PB (constL (1:Int)) 1 1 1:=constL_pb (rsz_sm (by omega) (by omega)) (by omega)
theorem pmul_yy : pmul [yT] [yT] = [yyT]:=by
 show mrg [] [yyT] = [yyT]
 rw [nil_mrg]
theorem sum_xyy : mrg [xT] [yyT] = [xT,yyT]:=by
 rw [mrg_gt (show lx xT.m yyT.m = 1 by decide),nil_mrg]
theorem yy_pb : PB [yyT] 1 3 2:=by
 rw [← pmul_yy]
 exact (var_pb 1).mul (var_pb 1) (by omega) (by omega)
theorem ones_in (i : Nat) (hi:i<8):-1000≤onesOf 255 i∧onesOf 255 i≤1000:=by
 unfold onesOf
 omega
theorem lead_xyy : leadF [onesOf 255] xT [yyT] = yyT:=by
 show upT [onesOf 255] xT yyT = yyT
 rw [upT,if_pos (by decide)]
theorem square_sim : Sim (pmul (mrg [xT] (constL (1:Int))) (psub [xT] (constL (1:Int)))) (psub (pmul [xT] [xT]) (constL (1:Int))):=by
 refine (mul_sim (add_sim (Sim.refl _) (Sim.refl _)) (sub_sim (Sim.refl _) (Sim.refl _))).trans (Sim.symm ((sub_sim (pmul_sim _ _) (Sim.refl _)).trans ?_))
 intro f hf
 rw [constL_one]
 simp only [mulL,neg,fT,xT,List.map_cons,List.map_nil,List.flatMap_cons,List.flatMap_nil,List.cons_append,List.nil_append,dot]
 rw [add8_zero,zero_add8,add8_zero]
 grind
set_option maxHeartbeats 2000000 in
theorem sanity_abs : Abs Tryz.prog 13 [] (ex (.bool true)):=by
 have hx:=var_pb 0
 have hy:=var_pb 1
 have h1:=one_pol
 have ha:=hx.add h1
 have hs:=hx.sub h1
 have hm:=ha.mul hs (by omega) (by omega)
 have hxx:=hx.mul hx (by omega) (by omega)
 have hd:=hxx.sub h1
 have cyy:=PMul_pb hy hy (by omega) (by omega) (by omega) (by omega) (by omega)
 rw [show pmul [⟨1,unitE 1⟩] [⟨1,unitE 1⟩] = [yyT] from pmul_yy] at cyy
 have csum:=PAdd_pb hx yy_pb (by omega) (by omega)
 rw [show mrg [⟨1,unitE 0⟩] [yyT] = [xT,yyT] from sum_xyy] at csum
 have clead := PLead_abs xT [yyT] [onesOf 255] (fun r hr => by rw [List.mem_singleton.1 hr]; exact fun i hi => ones_in i hi) ((show PIn [xT, yyT] 0 2 from fun t ht => by
  rcases List.mem_cons.1 ht with rfl | ht
  ·exact (hx.ex _ (by simp [xT])).mono (by omega) (by omega)
  ·exact yy_pb.ex t ht).mono (by omega) (by omega)) (by simp)
 rw [lead_xyy] at clead
 have csq:=RSame_sim hm.can hd.can square_sim
 have cval:=PValid_pb hm (by omega) (by omega) (by omega)
 refine Abs.intro Tryz.func13 rfl (callFunc_run Tryz.func13 (by kernel_rfl) (by kernel_rfl)) rfl fun s0=>?_
 rw [Tryz.ntmps13]
 have hyy:eqB yyT.m (fun i=>([0,2]:List Int).getD i 0) = true:=by decide
 repeat (first | refine AWs.qG rfl rfl rfl rfl rfl ?_;refine ⟨_,Qs.eqMonT (a:=yyT.m) (b:=fun i=>([0,2]:List Int).getD i 0) (ao rfl) (ao rfl) hyy,?_⟩ | apply AWp.seq | apply AWp.region | (apply Ga.alloc;refine AWs.al (tab_of rfl) rfl rfl rfl rfl rfl rfl ?_) | (apply Ga.store;refine AWs.stF (ao rfl) (ao rfl) rfl (tab_of rfl) rfl rfl rfl ?_) | (refine AWs.q rfl rfl ?_;first | (apply Gt.move;refine ⟨_,Qs.move (ao rfl),?_⟩) | (apply Gt.assign;refine ⟨_,Qs.assign (ao rfl),?_⟩) | (apply Gt.bin;refine ⟨_,Qs.cmpF rfl (ao rfl) (ao rfl) (by first | (simp only [cmpP,List.length_cons,List.length_nil];omega) | (simp [cmpP];done) | (simp [cmpP];omega)),?_⟩) | (apply Gt.ext;refine ⟨_,Qs.ext (ao rfl) rfl,?_⟩) | (apply Gt.pick;first | refine ⟨_,Qs.pickT (ao rfl) (ao rfl),?_⟩ | refine ⟨_,Qs.pickF (ao rfl) (ao rfl),?_⟩) | (apply Gt.callv;first | refine ⟨_,Qs.call (ao rfl) (PVar_abs 0 (by omega)) (by first | ((repeat (first | exact ArgsLe.nil | refine ArgsLe.cons rfl (D.le.refl _) ?_ | refine ArgsLe.cons rfl D.le_nil ?_));done) | fail),?_⟩ | refine ⟨_,Qs.call (ao rfl) (PVar_abs 1 (by omega)) (by first | ((repeat (first | exact ArgsLe.nil | refine ArgsLe.cons rfl (D.le.refl _) ?_ | refine ArgsLe.cons rfl D.le_nil ?_));done) | fail),?_⟩ | refine ⟨_,Qs.call (ao rfl) (RWhole_abs 1 (by omega) (by omega)) (by first | ((repeat (first | exact ArgsLe.nil | refine ArgsLe.cons rfl (D.le.refl _) ?_ | refine ArgsLe.cons rfl D.le_nil ?_));done) | fail),?_⟩ | refine ⟨_,Qs.call (ao rfl) (PConst_abs (1:Int)) (by first | ((repeat (first | exact ArgsLe.nil | refine ArgsLe.cons rfl (D.le.refl _) ?_ | refine ArgsLe.cons rfl D.le_nil ?_));done) | fail),?_⟩ | refine ⟨_,Qs.call (ao rfl) (RX_abs 0 (by omega)) (by first | ((repeat (first | exact ArgsLe.nil | refine ArgsLe.cons rfl (D.le.refl _) ?_ | refine ArgsLe.cons rfl D.le_nil ?_));done) | fail),?_⟩ | refine ⟨_,Qs.call (ao rfl) (RInt_abs 1 (by omega) (by omega)) (by first | ((repeat (first | exact ArgsLe.nil | refine ArgsLe.cons rfl (D.le.refl _) ?_ | refine ArgsLe.cons rfl D.le_nil ?_));done) | fail),?_⟩ | refine ⟨_,Qs.call (ao rfl) (PAdd_pb hx h1 (by omega) (by omega)) (by first | ((repeat (first | exact ArgsLe.nil | refine ArgsLe.cons rfl (D.le.refl _) ?_ | refine ArgsLe.cons rfl D.le_nil ?_));done) | fail),?_⟩ | refine ⟨_,Qs.call (ao rfl) (PSub_pb hx h1 (by omega) (by omega)) (by first | ((repeat (first | exact ArgsLe.nil | refine ArgsLe.cons rfl (D.le.refl _) ?_ | refine ArgsLe.cons rfl D.le_nil ?_));done) | fail),?_⟩ | refine ⟨_,Qs.call (ao rfl) (PMul_pb ha hs (by omega) (by omega) (by omega) (by omega) (by omega)) (by first | ((repeat (first | exact ArgsLe.nil | refine ArgsLe.cons rfl (D.le.refl _) ?_ | refine ArgsLe.cons rfl D.le_nil ?_));done) | fail),?_⟩ | refine ⟨_,Qs.call (ao rfl) (got_abs _) (by first | ((repeat (first | exact ArgsLe.nil | refine ArgsLe.cons rfl (D.le.refl _) ?_ | refine ArgsLe.cons rfl D.le_nil ?_));done) | fail),?_⟩ | refine ⟨_,Qs.call (ao rfl) (cyy) (by first | ((repeat (first | exact ArgsLe.nil | refine ArgsLe.cons rfl (D.le.refl _) ?_ | refine ArgsLe.cons rfl D.le_nil ?_));done) | fail),?_⟩ | refine ⟨_,Qs.call (ao rfl) (csum) (by first | ((repeat (first | exact ArgsLe.nil | refine ArgsLe.cons rfl (D.le.refl _) ?_ | refine ArgsLe.cons rfl D.le_nil ?_));done) | fail),?_⟩ | refine ⟨_,Qs.call (ao rfl) (RGraded_abs) (by first | ((repeat (first | exact ArgsLe.nil | refine ArgsLe.cons rfl (D.le.refl _) ?_ | refine ArgsLe.cons rfl D.le_nil ?_));done) | fail),?_⟩ | refine ⟨_,Qs.call (ao rfl) (clead) (by first | ((repeat (first | exact ArgsLe.nil | refine ArgsLe.cons rfl (D.le.refl _) ?_ | refine ArgsLe.cons rfl D.le_nil ?_));done) | fail),?_⟩ | refine ⟨_,Qs.call (ao rfl) (RLex_abs) (by first | ((repeat (first | exact ArgsLe.nil | refine ArgsLe.cons rfl (D.le.refl _) ?_ | refine ArgsLe.cons rfl D.le_nil ?_));done) | fail),?_⟩ | refine ⟨_,Qs.call (ao rfl) (PLead0_abs []) (by first | ((repeat (first | exact ArgsLe.nil | refine ArgsLe.cons rfl (D.le.refl _) ?_ | refine ArgsLe.cons rfl D.le_nil ?_));done) | fail),?_⟩ | refine ⟨_,Qs.call (ao rfl) (RBy_pb hx hx (by omega) (by omega) (by omega) (by omega) (by omega) (by omega)) (by first | ((repeat (first | exact ArgsLe.nil | refine ArgsLe.cons rfl (D.le.refl _) ?_ | refine ArgsLe.cons rfl D.le_nil ?_));done) | fail),?_⟩ | refine ⟨_,Qs.call (ao rfl) (RSub_pb hxx h1 (by omega) (by omega) (by omega)) (by first | ((repeat (first | exact ArgsLe.nil | refine ArgsLe.cons rfl (D.le.refl _) ?_ | refine ArgsLe.cons rfl D.le_nil ?_));done) | fail),?_⟩ | refine ⟨_,Qs.call (ao rfl) (csq) (by first | ((repeat (first | exact ArgsLe.nil | refine ArgsLe.cons rfl (D.le.refl _) ?_ | refine ArgsLe.cons rfl D.le_nil ?_));done) | fail),?_⟩)) | (refine AWs.qG rfl rfl rfl rfl rfl ?_;first | (apply Gt.move;refine ⟨_,Qs.move (ao rfl),?_⟩) | (apply Gt.load;refine ⟨_,Qs.ldD (ao rfl) rfl (tab_of rfl) rfl rfl,?_⟩) | (apply Gt.fieldAddr;refine ⟨_,Qs.fldP (ao rfl) (tab_of rfl) rfl (tab_of rfl) rfl,?_⟩) | (apply Gt.bin;first | refine ⟨_,Qs.cmpF rfl (ao rfl) (ao rfl) (by first | (simp only [cmpP,List.length_cons,List.length_nil];omega) | (simp [cmpP];done) | (simp [cmpP];omega)),?_⟩ | refine ⟨_,Qs.cmp (ao rfl) (ao rfl) rfl,?_⟩) | (apply Gt.un;refine ⟨_,Qs.not (ao rfl),?_⟩) | (apply Gt.build;(refine Bq.arr (tab_of rfl) (tab_of rfl) rfl rfl ?_;(repeat ((first | refine ⟨_,PartOk.ag (ao rfl),?_⟩ | refine ⟨_,PartOk.one rfl (by first | exact One.ex_ rfl | exact One.sl | exact One.ep),?_⟩);refine ⟨_,rfl,?_⟩));refine ⟨_,rfl,?_⟩)) | (apply Gt.callv;first | refine ⟨_,Qs.call (ao rfl) (RX_abs 0 (by omega)) (by first | ((repeat (first | exact ArgsLe.nil | refine ArgsLe.cons rfl (D.le.refl _) ?_ | refine ArgsLe.cons rfl D.le_nil ?_));done) | fail),?_⟩ | refine ⟨_,Qs.call (ao rfl) (RX_abs 1 (by omega)) (by first | ((repeat (first | exact ArgsLe.nil | refine ArgsLe.cons rfl (D.le.refl _) ?_ | refine ArgsLe.cons rfl D.le_nil ?_));done) | fail),?_⟩ | refine ⟨_,Qs.call (ao rfl) (RSame_true (SameL.refl [⟨1,unitE 0⟩])) (by first | ((repeat (first | exact ArgsLe.nil | refine ArgsLe.cons rfl (D.le.refl _) ?_ | refine ArgsLe.cons rfl D.le_nil ?_));done) | fail),?_⟩ | refine ⟨_,Qs.call (ao rfl) (RSame_true (SameL.refl [⟨1,unitE 1⟩])) (by first | ((repeat (first | exact ArgsLe.nil | refine ArgsLe.cons rfl (D.le.refl _) ?_ | refine ArgsLe.cons rfl D.le_nil ?_));done) | fail),?_⟩ | refine ⟨_,Qs.call (ao rfl) (RSame_true (SameL.refl (constL (1:Int)))) (by first | ((repeat (first | exact ArgsLe.nil | refine ArgsLe.cons rfl (D.le.refl _) ?_ | refine ArgsLe.cons rfl D.le_nil ?_));done) | fail),?_⟩ | refine ⟨_,Qs.call (ao rfl) (RInt_abs 1 (by omega) (by omega)) (by first | ((repeat (first | exact ArgsLe.nil | refine ArgsLe.cons rfl (D.le.refl _) ?_ | refine ArgsLe.cons rfl D.le_nil ?_));done) | fail),?_⟩ | refine ⟨_,Qs.call (ao rfl) (cval) (by first | ((repeat (first | exact ArgsLe.nil | refine ArgsLe.cons rfl (D.le.refl _) ?_ | refine ArgsLe.cons rfl D.le_nil ?_));done) | fail),?_⟩ | refine ⟨_,Qs.call (ao rfl) (PDeg_abs [] (fun t h=>(by cases h)) (by simp)) (by first | ((repeat (first | exact ArgsLe.nil | refine ArgsLe.cons rfl (D.le.refl _) ?_ | refine ArgsLe.cons rfl D.le_nil ?_));done) | fail),?_⟩)) | apply AWl.nil | apply AThen.normal | apply AWp.skip | apply AWp.ret | (apply Gc.cond;refine AWp.condF (ao rfl) ?_))
 exact Fin.ret (Rets.of1 (ResV.tmp rfl rfl) (D.le.refl _))
end Go.Proofs.YteicdddphdomkaaGreat
namespace Go.Proofs.YteicdddphdomkaaGreat
open Go.RowKit
set_option maxRecDepth 100000
def tcmp (s t:Tm):Int:=if eqB s.m t.m = true then qcmp s.c t.c else lex8 s.m t.m
def pcmp : List Tm→List Tm→Int
 | [],[]=>0
 | [],_ :: _=>-1
 | _ :: _,[]=>1
 | s :: P,t :: Q=>if tcmp s t = 0 then pcmp P Q else tcmp s t
theorem Cmp1_abs (s t:Tm) (hs:RSz s.c 1000000000) (ht:RSz t.c 1000000000):Abs Tryz.prog 106 [agD (tmC s),agD (tmC t)] (ex (.int .i64 (tcmp s t))):=by
 cases h:eqB s.m t.m with
 | true =>
  have e:tcmp s t = qcmp s.c t.c:=if_pos h
  refine Abs.intro Tryz.func106 rfl (callFunc_run Tryz.func106 (by kernel_rfl) (by kernel_rfl)) rfl fun s0=>?_
  rw [Tryz.ntmps106]
  apply AWp.seq;apply AWp.region;refine AWs.bx (ao rfl) rfl rfl rfl rfl ?_;refine AWs.bx (ao rfl) rfl rfl rfl rfl ?_;refine Wq Qz.assign ?_;apply AWl.nil;apply AThen.normal;apply AWp.seq;apply AWp.seq;apply AWp.region;refine Wq Qz.fldP ?_;refine Wq Qz.ldD ?_;refine Wq Qz.fldP ?_;refine Wq Qz.ldD ?_;refine Wq Qz.neMonF ?_;apply AWl.nil;apply AThen.normal;refine AWp.condF (ao rfl) ?_;apply AWp.skip;apply AThen.normal;apply AWp.seq;apply AWp.region;refine Wq Qz.fldP ?_;refine Wq Qz.ldD ?_;refine Wq Qz.fldP ?_;refine Wq Qz.ldD ?_;refine Wq (Qz.call (rCmp_abs s.c t.c hs ht)) ?_;refine Wq Qz.assign ?_;apply AWl.nil;apply AThen.normal;apply AWp.ret
  exact Fin.ret (Rets.of1 (ResV.tmp rfl rfl) (D.le.of_eq (by rw [e])))
 | false =>
  have e:tcmp s t = lex8 s.m t.m:=if_neg (by rw [h];decide)
  refine Abs.intro Tryz.func106 rfl (callFunc_run Tryz.func106 (by kernel_rfl) (by kernel_rfl)) rfl fun s0=>?_
  rw [Tryz.ntmps106]
  apply AWp.seq;apply AWp.region;refine AWs.bx (ao rfl) rfl rfl rfl rfl ?_;refine AWs.bx (ao rfl) rfl rfl rfl rfl ?_;refine Wq Qz.assign ?_;apply AWl.nil;apply AThen.normal;apply AWp.seq;apply AWp.seq;apply AWp.region;refine Wq Qz.fldP ?_;refine Wq Qz.ldD ?_;refine Wq Qz.fldP ?_;refine Wq Qz.ldD ?_;refine Wq Qz.neMonT ?_;apply AWl.nil;apply AThen.normal;refine AWp.condT (ao rfl) ?_;apply AWp.seq;apply AWp.region;refine Wq Qz.fldP ?_;refine Wq Qz.ldD ?_;refine Wq Qz.fldP ?_;refine Wq Qz.ldD ?_;refine Wq (Qz.call (mCmp_abs s.m t.m)) ?_;refine Wq Qz.assign ?_;apply AWl.nil;apply AThen.normal;apply AWp.ret;apply AThen.ret
  exact Fin.ret (Rets.of1 (ResV.tmp rfl rfl) (D.le.of_eq (by rw [e])))
theorem pcmp_drop {P Q:List Tm} {k:Nat} (h1:k<P.length) (h2:k<Q.length):pcmp (P.drop k) (Q.drop k) = if tcmp (tAt P k) (tAt Q k) = 0 then pcmp (P.drop (k+1)) (Q.drop (k+1)) else tcmp (tAt P k) (tAt Q k):=by
 rw [drop_tAt h1,drop_tAt h2,pcmp]
theorem CompareF_abs (P Q:List Tm) (hP:PSz P 1000000000) (hQ:PSz Q 1000000000) (hn:P.length≤1000000) (hm:Q.length≤1000000):Abs Tryz.prog 105 [polD P,polD Q,ex (.func (.func 106) #[] #[])] (ex (.int .i64 (pcmp P Q))):=by
 refine Abs.intro Tryz.func105 rfl (callFunc_run Tryz.func105 (by kernel_rfl) (by kernel_rfl)) rfl fun s0=>?_
 rw [Tryz.ntmps105]
 apply AWp.seq;apply AWp.region;refine Wq Qz.assign ?_;apply AWl.nil;apply AThen.normal;apply AWp.seq;apply AWp.seq;apply AWp.region;refine Wq Qz.move ?_;refine Wq Qz.lenN ?_;refine Wq Qz.move ?_;apply AWl.nil;apply AThen.normal;apply AWp.block
 refine AWp.loop (fun mz σ=>∃ k,k≤P.length∧k≤Q.length∧pcmp P Q = pcmp (P.drop k) (Q.drop k)∧mz = P.length - k∧σ = ⟨[(0,.d (polD P)),(1,.d (polD Q)),(2,.d (ex (.func (.func 106) #[] #[]))),(11,.d (polD P)),(12,.d (ex (.int .i64 (P.length:Nat)))),(13,.d (ex (.int .i64 (k:Nat))))],[]⟩) ?le ⟨0,by omega,by omega,rfl,rfl,rfl⟩ ?round
 case le=>exact AS.le_of (by refine FrLe.cons rfl (AVle.d rfl) ?_;refine FrLe.cons rfl (AVle.d rfl) ?_;refine FrLe.cons rfl (AVle.d rfl) ?_;refine FrLe.cons rfl (AVle.d rfl) ?_;refine FrLe.cons rfl (AVle.d rfl) ?_;refine FrLe.cons rfl (AVle.d rfl) ?_;exact FrLe.nil) (by exact HpLe.nil)
 case round =>
  rintro m _ ⟨k,hk,hk2,heq,rfl,rfl⟩
  by_cases hlt:k<P.length
  ·by_cases hlt2:k<Q.length
   ·have hs:=hP _ (tAt_mem hlt)
    have ht:=hQ _ (tAt_mem hlt2)
    have hd:=pcmp_drop hlt hlt2
    by_cases hz:tcmp (tAt P k) (tAt Q k) = 0
    ·rw [if_pos hz] at hd
     apply AWp.seq;apply AWp.region;refine Wq Qz.cmpT ?_;apply AWl.nil;apply AThen.normal;apply AWp.seq;refine AWp.condT (ao rfl) ?_;apply AWp.skip;apply AThen.normal;apply AWp.seq;apply AWp.block;apply AWp.seq;apply AWp.region;refine Wq Qz.move ?_;refine Wq Qz.indexN ?_;refine Wq Qz.loadEf ?_;refine AWs.al (tab_of rfl) rfl rfl rfl rfl rfl rfl ?_;refine Wq Qz.assign ?_;refine AWs.stF (ao rfl) (ao rfl) rfl (tab_of rfl) rfl rfl rfl ?_;apply AWl.nil;apply AThen.normal;apply AWp.seq;apply AWp.seq;apply AWp.region;refine Wq Qz.move ?_;refine Wq Qz.move ?_;refine Wq Qz.lenN ?_;refine Wq Qz.cmpF ?_;apply AWl.nil;apply AThen.normal;refine AWp.condF (ao rfl) ?_;apply AWp.skip;apply AThen.normal;apply AWp.seq;apply AWp.region;refine Wq Qz.move ?_;refine Wq Qz.move ?_;refine Wq Qz.indexN ?_;refine Wq Qz.loadEf ?_;refine AWs.al (tab_of rfl) rfl rfl rfl rfl rfl rfl ?_;refine AWs.stF (ao rfl) (ao rfl) rfl (tab_of rfl) rfl rfl rfl ?_;apply AWl.nil;apply AThen.normal;apply AWp.seq;apply AWp.region;refine Wq Qz.move ?_;refine Wq Qz.ldD ?_;refine Wq Qz.ldD ?_;refine Wq (Qz.call (Cmp1_abs (tAt P k) (tAt Q k) hs ht)) ?_;refine Wq Qz.assign ?_;apply AWl.nil;apply AThen.normal;apply AWp.seq;apply AWp.region;refine Wq Qz.move ?_;refine Wq Qz.cmpF ?_;apply AWl.nil;apply AThen.normal;refine AWp.condF (ao rfl) ?_;apply AWp.skip;apply ABlock.normal;apply AThen.normal;apply AWp.region;refine Wq Qz.succ ?_;refine Wq Qz.move ?_;apply AWl.nil
     refine ALoop.next (P.length - (k+1)) (by omega) ⟨k+1,by omega,by omega,by rw [heq,hd],rfl,rfl⟩ ?_
     exact AS.le_of (by refine FrLe.cons rfl (AVle.d rfl) ?_;refine FrLe.cons rfl (AVle.d rfl) ?_;refine FrLe.cons rfl (AVle.d rfl) ?_;refine FrLe.cons rfl (AVle.d rfl) ?_;refine FrLe.cons rfl (AVle.d rfl) ?_;refine FrLe.cons rfl (AVle.d rfl) ?_;exact FrLe.nil) (by exact HpLe.nil)
    ·rw [if_neg hz] at hd
     apply AWp.seq;apply AWp.region;refine Wq Qz.cmpT ?_;apply AWl.nil;apply AThen.normal;apply AWp.seq;refine AWp.condT (ao rfl) ?_;apply AWp.skip;apply AThen.normal;apply AWp.seq;apply AWp.block;apply AWp.seq;apply AWp.region;refine Wq Qz.move ?_;refine Wq Qz.indexN ?_;refine Wq Qz.loadEf ?_;refine AWs.al (tab_of rfl) rfl rfl rfl rfl rfl rfl ?_;refine Wq Qz.assign ?_;refine AWs.stF (ao rfl) (ao rfl) rfl (tab_of rfl) rfl rfl rfl ?_;apply AWl.nil;apply AThen.normal;apply AWp.seq;apply AWp.seq;apply AWp.region;refine Wq Qz.move ?_;refine Wq Qz.move ?_;refine Wq Qz.lenN ?_;refine Wq Qz.cmpF ?_;apply AWl.nil;apply AThen.normal;refine AWp.condF (ao rfl) ?_;apply AWp.skip;apply AThen.normal;apply AWp.seq;apply AWp.region;refine Wq Qz.move ?_;refine Wq Qz.move ?_;refine Wq Qz.indexN ?_;refine Wq Qz.loadEf ?_;refine AWs.al (tab_of rfl) rfl rfl rfl rfl rfl rfl ?_;refine AWs.stF (ao rfl) (ao rfl) rfl (tab_of rfl) rfl rfl rfl ?_;apply AWl.nil;apply AThen.normal;apply AWp.seq;apply AWp.region;refine Wq Qz.move ?_;refine Wq Qz.ldD ?_;refine Wq Qz.ldD ?_;refine Wq (Qz.call (Cmp1_abs (tAt P k) (tAt Q k) hs ht)) ?_;refine Wq Qz.assign ?_;apply AWl.nil;apply AThen.normal;apply AWp.seq;apply AWp.region;refine Wq Qz.move ?_;refine Wq Qz.cmpT ?_;apply AWl.nil;apply AThen.normal;refine AWp.condT (ao rfl) ?_;apply AWp.seq;apply AWp.region;refine Wq Qz.move ?_;refine Wq Qz.assign ?_;apply AWl.nil;apply AThen.normal;apply AWp.ret;apply ABlock.ret;apply AThen.ret;apply ALoop.ret;apply ABlock.ret;apply AThen.ret
     exact Fin.ret (Rets.of1 (ResV.tmp rfl rfl) (D.le.of_eq (by rw [heq,hd])))
   ·have e:pcmp P Q = 1:=by
     rw [heq,drop_tAt hlt,(List.drop_eq_nil_of_le (by omega):Q.drop k = []),pcmp]
    apply AWp.seq;apply AWp.region;refine Wq Qz.cmpT ?_;apply AWl.nil;apply AThen.normal;apply AWp.seq;refine AWp.condT (ao rfl) ?_;apply AWp.skip;apply AThen.normal;apply AWp.seq;apply AWp.block;apply AWp.seq;apply AWp.region;refine Wq Qz.move ?_;refine Wq Qz.indexN ?_;refine Wq Qz.loadEf ?_;refine AWs.al (tab_of rfl) rfl rfl rfl rfl rfl rfl ?_;refine Wq Qz.assign ?_;refine AWs.stF (ao rfl) (ao rfl) rfl (tab_of rfl) rfl rfl rfl ?_;apply AWl.nil;apply AThen.normal;apply AWp.seq;apply AWp.seq;apply AWp.region;refine Wq Qz.move ?_;refine Wq Qz.move ?_;refine Wq Qz.lenN ?_;refine Wq Qz.cmpT ?_;apply AWl.nil;apply AThen.normal;refine AWp.condT (ao rfl) ?_;apply AWp.seq;apply AWp.region;refine Wq Qz.assign ?_;apply AWl.nil;apply AThen.normal;apply AWp.ret;apply AThen.ret;apply ABlock.ret;apply AThen.ret;apply ALoop.ret;apply ABlock.ret;apply AThen.ret
    exact Fin.ret (Rets.of1 (ResV.tmp rfl rfl) (D.le.of_eq (by rw [e])))
  ·have hp : P.drop k = [] := List.drop_eq_nil_of_le (by omega)
   by_cases hlt2:k<Q.length
   ·have e:pcmp P Q = -1:=by
     rw [heq,hp,drop_tAt hlt2,pcmp]
    apply AWp.seq;apply AWp.region;refine Wq Qz.cmpF ?_;apply AWl.nil;apply AThen.normal;apply AWp.seq;refine AWp.condF (ao rfl) ?_;apply AWp.exit;apply AThen.exit;apply ALoop.exit;apply ABlock.hit;apply AThen.normal;apply AWp.seq;apply AWp.seq;apply AWp.region;refine Wq Qz.move ?_;refine Wq Qz.lenN ?_;refine Wq Qz.move ?_;refine Wq Qz.lenN ?_;refine Wq Qz.cmpT ?_;apply AWl.nil;apply AThen.normal;refine AWp.condT (ao rfl) ?_;apply AWp.seq;apply AWp.region;refine Wq Qz.assign ?_;apply AWl.nil;apply AThen.normal;apply AWp.ret;apply AThen.ret
    exact Fin.ret (Rets.of1 (ResV.tmp rfl rfl) (D.le.of_eq (by rw [e])))
   ·have e:pcmp P Q = 0:=by
     rw [heq,hp,(List.drop_eq_nil_of_le (by omega):Q.drop k = []),pcmp]
    apply AWp.seq;apply AWp.region;refine Wq Qz.cmpF ?_;apply AWl.nil;apply AThen.normal;apply AWp.seq;refine AWp.condF (ao rfl) ?_;apply AWp.exit;apply AThen.exit;apply ALoop.exit;apply ABlock.hit;apply AThen.normal;apply AWp.seq;apply AWp.seq;apply AWp.region;refine Wq Qz.move ?_;refine Wq Qz.lenN ?_;refine Wq Qz.move ?_;refine Wq Qz.lenN ?_;refine Wq Qz.cmpF ?_;apply AWl.nil;apply AThen.normal;refine AWp.condF (ao rfl) ?_;apply AWp.skip;apply AThen.normal;apply AWp.seq;apply AWp.region;refine Wq Qz.assign ?_;apply AWl.nil;apply AThen.normal;apply AWp.ret
    exact Fin.ret (Rets.of1 (ResV.tmp rfl rfl) (D.le.of_eq (by rw [e])))
theorem PCmp_abs (P Q:List Tm) (hP:PSz P 1000000000) (hQ:PSz Q 1000000000) (hn:P.length≤1000000) (hm:Q.length≤1000000):Abs Tryz.prog 42 [polD P,polD Q] (ex (.int .i64 (pcmp P Q))):=by
 refine Abs.intro Tryz.func42 rfl (callFunc_run Tryz.func42 (by kernel_rfl) (by kernel_rfl)) rfl fun s0=>?_
 rw [Tryz.ntmps42]
 apply AWp.seq;apply AWp.region;refine Wq Qz.assign ?_;apply AWl.nil;apply AThen.normal;apply AWp.seq;apply AWp.region;refine Wq Qz.move ?_;refine Wq Qz.move ?_;refine Wq (Qz.call (CompareF_abs P Q hP hQ hn hm)) ?_;refine Wq Qz.assign ?_;apply AWl.nil;apply AThen.normal;apply AWp.ret
 exact Fin.ret (Rets.of1 (ResV.tmp rfl rfl) (D.le.refl _))
end Go.Proofs.YteicdddphdomkaaGreat
namespace Go.Proofs.YteicdddphdomkaaGreat
open Go.RowKit
theorem qcmp_zero {p q:Rat}:qcmp p q = 0↔p = q:=by
 rw [qcmp,Int.sign_eq_zero_iff_zero,Rat.eq_iff_mul_eq_mul];omega
theorem qcmp_val (p q:Rat):qcmp p q = -1∨qcmp p q = 0∨qcmp p q = 1:=by
 unfold qcmp
 rcases Int.lt_trichotomy (p.num*(q.den:Int) - q.num*(p.den:Int)) 0 with h | h | h
 ·exact .inl (Int.sign_eq_neg_one_of_neg h)
 ·exact .inr (.inl (by rw [h];rfl))
 ·exact .inr (.inr (Int.sign_eq_one_of_pos h))
theorem tcmp_eq {s t:Tm} (h:Eqv s.m t.m):tcmp s t = qcmp s.c t.c:=if_pos (eqB_true.2 h)
theorem tcmp_ne {s t:Tm} (h:¬ Eqv s.m t.m):tcmp s t = lx s.m t.m:=by rw [tcmp,if_neg fun h'=>h (eqB_true.1 h'),lx_lex]
theorem lx_ne {a b:Nat→Int} (h:¬ Eqv a b):lx a b = -1∨lx a b = 1:=by
 rcases lx_val a b with h1 | h1 | h1
 ·exact .inl h1
 ·exact absurd (lx_zero.1 h1) h
 ·exact .inr h1
theorem tcmp_val (s t:Tm):tcmp s t = -1∨tcmp s t = 0∨tcmp s t = 1:=by
 by_cases h:Eqv s.m t.m
 ·rw [tcmp_eq h];exact qcmp_val _ _
 ·rw [tcmp_ne h];rcases lx_ne h with h | h <;> omega
theorem tcmp_zero {s t:Tm}:tcmp s t = 0↔s.c = t.c∧Eqv s.m t.m:=by
 by_cases h:Eqv s.m t.m
 ·rw [tcmp_eq h,qcmp_zero];exact ⟨fun e=>⟨e,h⟩,fun e=>e.1⟩
 ·rw [tcmp_ne h]
  exact ⟨fun e=>absurd (lx_zero.1 e) h,fun e=>absurd e.2 h⟩
theorem pcmp_val : ∀ P Q:List Tm,pcmp P Q = -1∨pcmp P Q = 0∨pcmp P Q = 1
 | [],[]=>by simp [pcmp]
 | [],_ :: _=>by simp [pcmp]
 | _ :: _,[]=>by simp [pcmp]
 | s :: P,t :: Q=>by
  rw [pcmp]
  split
  ·exact pcmp_val P Q
  ·exact tcmp_val s t
theorem pcmp_zero : ∀ {P Q:List Tm},pcmp P Q = 0↔SameL P Q
 | [],[]=>by simp [pcmp,SameL]
 | [],_ :: _=>by simp [pcmp,SameL]
 | _ :: _,[]=>by simp [pcmp,SameL]
 | s :: P,t :: Q=>by
  have ih:=pcmp_zero (P:=P) (Q:=Q)
  have h:=tcmp_zero (s:=s) (t:=t)
  rw [pcmp]
  by_cases h0:tcmp s t = 0
  ·rw [if_pos h0,ih]
   have:=h.1 h0
   exact ⟨fun e=>⟨this.1,this.2,e⟩,fun e=>e.2.2⟩
  ·rw [if_neg h0]
   exact ⟨fun e=>absurd e h0,fun e=>absurd (h.2 ⟨e.1,e.2.1⟩) h0⟩
theorem pcmp_length {P Q:List Tm} (h:pcmp P Q = 0):P.length = Q.length:=(pcmp_zero.1 h).length
end Go.Proofs.YteicdddphdomkaaGreat
namespace Go.Proofs.YteicdddphdomkaaGreat
open Go.RowKit
set_option maxRecDepth 100000
theorem tcmp_lex {s t:Tm} (h:lex8 s.m t.m ≠ 0):tcmp s t = lex8 s.m t.m:=by
 rw [← lx_lex] at h ⊢
 exact tcmp_ne fun e=>h (lx_zero.2 e)
theorem tcmp_lex0 {s t:Tm} (h:lex8 s.m t.m = 0):tcmp s t = qcmp s.c t.c:=by
 rw [← lx_lex] at h
 exact tcmp_eq (lx_zero.1 h)
theorem RPCmp_abs (P Q:List Tm) (hP:PSz P 1000000000) (hQ:PSz Q 1000000000) (hn:P.length≤1000000) (hm:Q.length≤1000000):Abs Tryz.prog 58 [polD P,polD Q] (ex (.int .i64 (pcmp P Q))):=by
 refine Abs.intro Tryz.func58 rfl (callFunc_run Tryz.func58 (by kernel_rfl) (by kernel_rfl)) rfl fun s0=>?_
 rw [Tryz.ntmps58]
 apply AWp.seq;apply AWp.region;refine Wq Qz.assign ?_;apply AWl.nil;apply AThen.normal;apply AWp.seq;apply AWp.seq;apply AWp.region;refine Wq Qz.assign ?_;apply AWl.nil;apply AThen.normal;apply AWp.block
 refine AWp.loop (fun mz σ=>∃ k,k≤P.length∧k≤Q.length∧pcmp P Q = pcmp (P.drop k) (Q.drop k)∧mz = P.length - k∧σ = ⟨[(0,.d (polD P)),(1,.d (polD Q)),(5,.d (ex (.int .i64 (k:Nat))))],[]⟩) ?le ⟨0,by omega,by omega,rfl,rfl,rfl⟩ ?round
 case le=>exact AS.le_of (by refine FrLe.cons rfl (AVle.d rfl) ?_;refine FrLe.cons rfl (AVle.d rfl) ?_;refine FrLe.cons rfl (AVle.d rfl) ?_;exact FrLe.nil) (by exact HpLe.nil)
 case round =>
  rintro m _ ⟨k,hk,hk2,heq,rfl,rfl⟩
  by_cases hlt:k<P.length
  ·by_cases hlt2:k<Q.length
   ·have hs:=hP _ (tAt_mem hlt)
    have ht:=hQ _ (tAt_mem hlt2)
    have hd:=pcmp_drop hlt hlt2
    have c1:=RmCmp_abs (tAt P k).m (tAt Q k).m
    have c2:=RrCmp_abs (tAt P k).c (tAt Q k).c hs ht
    by_cases hl:lex8 (tAt P k).m (tAt Q k).m = 0
    ·have hl':lex8 (P.getD k default).m (Q.getD k default).m = 0:=hl
     have e:=tcmp_lex0 hl
     by_cases hz:qcmp (tAt P k).c (tAt Q k).c = 0
     ·rw [if_pos (e.trans hz)] at hd
      apply AWp.seq;apply AWp.seq;apply AWp.region;refine Wq Qz.move ?_;refine Wq Qz.move ?_;refine Wq Qz.lenN ?_;refine Wq Qz.cmpT ?_;refine Wq Qz.move ?_;refine Wg Qz.move ?_;refine Wg Qz.move ?_;refine Wg Qz.lenN ?_;refine Wg Qz.cmpT ?_;refine Wq Qz.pickT ?_;apply AWl.nil;apply AThen.normal;refine AWp.condT (ao rfl) ?_;apply AWp.skip;apply AThen.normal;apply AWp.seq;apply AWp.block;apply AWp.seq;apply AWp.seq
      refine AWp.dr' (DrawOk.self (by kernel_rfl)) [[],[],[(18,0),(19,1)],[(20,2)],[(21,3)],[],[],[(23,5),(24,6)],[(25,7)],[(26,8)],[(22,4),(27,9)],[(28,10)]] [[],[],[0,1],[0,1,2],[0,1,2,3],[],[],[5,6],[5,6,7],[5,6,7,8],[0,1,2,3,4,5,6,7,8,9],[0,1,2,3,4,5,6,7,8,9,10]] rfl (by kernel_rfl) (by kernel_rfl) (by kernel_rfl) ?_
      refine Xq Qz.move ?_;refine Xq Qz.move ?_;refine Xq Qz.indexN ?_;refine Xq Qz.fldE ?_;refine Xq Qz.loadEf ?_;refine Xq Qz.move ?_;refine Xq Qz.move ?_;refine Xq Qz.indexN ?_;refine Xq Qz.fldE ?_;refine Xq Qz.loadEf ?_;refine Xq (Qz.call (c1)) ?_;refine Xq Qz.cmpF ?_;refine ⟨_,rfl,?_⟩
      apply AWl.nil;apply AThen.normal;refine AWp.condF (ao rfl) ?_;apply AWp.skip;apply AThen.normal;apply AWp.seq
      refine AWp.dr' (DrawOk.self (by kernel_rfl)) [[],[],[(41,0),(42,1)],[(43,2)],[(44,3)],[],[],[(46,5),(47,6)],[(48,7)],[(49,8)],[(45,4),(50,9)],[(51,10)]] [[],[],[0,1],[0,1,2],[0,1,2,3],[],[],[5,6],[5,6,7],[5,6,7,8],[0,1,2,3,4,5,6,7,8,9],[0,1,2,3,4,5,6,7,8,9,10]] rfl (by kernel_rfl) (by kernel_rfl) (by kernel_rfl) ?_
      refine Xq Qz.move ?_;refine Xq Qz.move ?_;refine Xq Qz.indexN ?_;refine Xq Qz.fldE ?_;refine Xq Qz.ldE ?_;refine Xq Qz.move ?_;refine Xq Qz.move ?_;refine Xq Qz.indexN ?_;refine Xq Qz.fldE ?_;refine Xq Qz.ldE ?_;refine Xq (Qz.call (c2)) ?_;refine Xq Qz.cmpF ?_;refine ⟨_,rfl,?_⟩
      apply AWl.nil;apply AThen.normal;refine AWp.condF (ao rfl) ?_;apply AWp.skip;apply ABlock.normal;apply AThen.normal;apply AWp.region;refine Wq Qz.move ?_;refine Wq Qz.succ ?_;refine Wq Qz.assign ?_;apply AWl.nil
      refine ALoop.next (P.length - (k+1)) (by omega) ⟨k+1,by omega,by omega,by rw [heq,hd],rfl,rfl⟩ ?_
      exact AS.le_of (by refine FrLe.cons rfl (AVle.d rfl) ?_;refine FrLe.cons rfl (AVle.d rfl) ?_;refine FrLe.cons rfl (AVle.d rfl) ?_;exact FrLe.nil) (by exact HpLe.nil)
     ·rw [if_neg (by rw [e]; exact hz)] at hd
      apply AWp.seq;apply AWp.seq;apply AWp.region;refine Wq Qz.move ?_;refine Wq Qz.move ?_;refine Wq Qz.lenN ?_;refine Wq Qz.cmpT ?_;refine Wq Qz.move ?_;refine Wg Qz.move ?_;refine Wg Qz.move ?_;refine Wg Qz.lenN ?_;refine Wg Qz.cmpT ?_;refine Wq Qz.pickT ?_;apply AWl.nil;apply AThen.normal;refine AWp.condT (ao rfl) ?_;apply AWp.skip;apply AThen.normal;apply AWp.seq;apply AWp.block;apply AWp.seq;apply AWp.seq
      refine AWp.dr' (DrawOk.self (by kernel_rfl)) [[],[],[(18,0),(19,1)],[(20,2)],[(21,3)],[],[],[(23,5),(24,6)],[(25,7)],[(26,8)],[(22,4),(27,9)],[(28,10)]] [[],[],[0,1],[0,1,2],[0,1,2,3],[],[],[5,6],[5,6,7],[5,6,7,8],[0,1,2,3,4,5,6,7,8,9],[0,1,2,3,4,5,6,7,8,9,10]] rfl (by kernel_rfl) (by kernel_rfl) (by kernel_rfl) ?_
      refine Xq Qz.move ?_;refine Xq Qz.move ?_;refine Xq Qz.indexN ?_;refine Xq Qz.fldE ?_;refine Xq Qz.loadEf ?_;refine Xq Qz.move ?_;refine Xq Qz.move ?_;refine Xq Qz.indexN ?_;refine Xq Qz.fldE ?_;refine Xq Qz.loadEf ?_;refine Xq (Qz.call (c1)) ?_;refine Xq Qz.cmpF ?_;refine ⟨_,rfl,?_⟩
      apply AWl.nil;apply AThen.normal;refine AWp.condF (ao rfl) ?_;apply AWp.skip;apply AThen.normal;apply AWp.seq
      refine AWp.dr' (DrawOk.self (by kernel_rfl)) [[],[],[(41,0),(42,1)],[(43,2)],[(44,3)],[],[],[(46,5),(47,6)],[(48,7)],[(49,8)],[(45,4),(50,9)],[(51,10)]] [[],[],[0,1],[0,1,2],[0,1,2,3],[],[],[5,6],[5,6,7],[5,6,7,8],[0,1,2,3,4,5,6,7,8,9],[0,1,2,3,4,5,6,7,8,9,10]] rfl (by kernel_rfl) (by kernel_rfl) (by kernel_rfl) ?_
      refine Xq Qz.move ?_;refine Xq Qz.move ?_;refine Xq Qz.indexN ?_;refine Xq Qz.fldE ?_;refine Xq Qz.ldE ?_;refine Xq Qz.move ?_;refine Xq Qz.move ?_;refine Xq Qz.indexN ?_;refine Xq Qz.fldE ?_;refine Xq Qz.ldE ?_;refine Xq (Qz.call (c2)) ?_;refine Xq Qz.cmpT ?_;refine ⟨_,rfl,?_⟩
      apply AWl.nil;apply AThen.normal;refine AWp.condT (ao rfl) ?_;apply AWp.seq
      refine AWp.dr' (DrawOk.self (by kernel_rfl)) [[],[],[(53,0),(54,1)],[(55,2)],[(56,3)],[],[],[(58,5),(59,6)],[(60,7)],[(61,8)],[(57,4),(62,9)]] [[],[],[0,1],[0,1,2],[0,1,2,3],[],[],[5,6],[5,6,7],[5,6,7,8],[0,1,2,3,4,5,6,7,8,9]] rfl (by kernel_rfl) (by kernel_rfl) (by kernel_rfl) ?_
      refine Xq Qz.move ?_;refine Xq Qz.move ?_;refine Xq Qz.indexN ?_;refine Xq Qz.fldE ?_;refine Xq Qz.ldE ?_;refine Xq Qz.move ?_;refine Xq Qz.move ?_;refine Xq Qz.indexN ?_;refine Xq Qz.fldE ?_;refine Xq Qz.ldE ?_;refine Xq (Qz.call (c2)) ?_;refine ⟨_,rfl,?_⟩
      refine Wq Qz.assign ?_;apply AWl.nil;apply AThen.normal;apply AWp.ret;apply ABlock.ret;apply AThen.ret;apply ALoop.ret;apply ABlock.ret;apply AThen.ret
      exact Fin.ret (Rets.of1 (ResV.tmp rfl rfl) (D.le.of_eq (by rw [heq,hd,e])))
    ·have e:=tcmp_lex hl
     rw [if_neg (by rw [e];exact hl)] at hd
     apply AWp.seq;apply AWp.seq;apply AWp.region;refine Wq Qz.move ?_;refine Wq Qz.move ?_;refine Wq Qz.lenN ?_;refine Wq Qz.cmpT ?_;refine Wq Qz.move ?_;refine Wg Qz.move ?_;refine Wg Qz.move ?_;refine Wg Qz.lenN ?_;refine Wg Qz.cmpT ?_;refine Wq Qz.pickT ?_;apply AWl.nil;apply AThen.normal;refine AWp.condT (ao rfl) ?_;apply AWp.skip;apply AThen.normal;apply AWp.seq;apply AWp.block;apply AWp.seq;apply AWp.seq
     refine AWp.dr' (DrawOk.self (by kernel_rfl)) [[],[],[(18,0),(19,1)],[(20,2)],[(21,3)],[],[],[(23,5),(24,6)],[(25,7)],[(26,8)],[(22,4),(27,9)],[(28,10)]] [[],[],[0,1],[0,1,2],[0,1,2,3],[],[],[5,6],[5,6,7],[5,6,7,8],[0,1,2,3,4,5,6,7,8,9],[0,1,2,3,4,5,6,7,8,9,10]] rfl (by kernel_rfl) (by kernel_rfl) (by kernel_rfl) ?_
     refine Xq Qz.move ?_;refine Xq Qz.move ?_;refine Xq Qz.indexN ?_;refine Xq Qz.fldE ?_;refine Xq Qz.loadEf ?_;refine Xq Qz.move ?_;refine Xq Qz.move ?_;refine Xq Qz.indexN ?_;refine Xq Qz.fldE ?_;refine Xq Qz.loadEf ?_;refine Xq (Qz.call (c1)) ?_;refine Xq Qz.cmpT ?_;refine ⟨_,rfl,?_⟩
     apply AWl.nil;apply AThen.normal;refine AWp.condT (ao rfl) ?_;apply AWp.seq
     refine AWp.dr' (DrawOk.self (by kernel_rfl)) [[],[],[(30,0),(31,1)],[(32,2)],[(33,3)],[],[],[(35,5),(36,6)],[(37,7)],[(38,8)],[(34,4),(39,9)]] [[],[],[0,1],[0,1,2],[0,1,2,3],[],[],[5,6],[5,6,7],[5,6,7,8],[0,1,2,3,4,5,6,7,8,9]] rfl (by kernel_rfl) (by kernel_rfl) (by kernel_rfl) ?_
     refine Xq Qz.move ?_;refine Xq Qz.move ?_;refine Xq Qz.indexN ?_;refine Xq Qz.fldE ?_;refine Xq Qz.loadEf ?_;refine Xq Qz.move ?_;refine Xq Qz.move ?_;refine Xq Qz.indexN ?_;refine Xq Qz.fldE ?_;refine Xq Qz.loadEf ?_;refine Xq (Qz.call (c1)) ?_;refine ⟨_,rfl,?_⟩
     refine Wq Qz.assign ?_;apply AWl.nil;apply AThen.normal;apply AWp.ret;apply AThen.ret;apply ABlock.ret;apply AThen.ret;apply ALoop.ret;apply ABlock.ret;apply AThen.ret
     exact Fin.ret (Rets.of1 (ResV.tmp rfl rfl) (D.le.of_eq (by rw [heq,hd,e])))
   ·have e:pcmp P Q = 1:=by
     rw [heq,drop_tAt hlt,(List.drop_eq_nil_of_le (by omega):Q.drop k = []),pcmp]
    apply AWp.seq;apply AWp.seq;apply AWp.region;refine Wq Qz.move ?_;refine Wq Qz.move ?_;refine Wq Qz.lenN ?_;refine Wq Qz.cmpT ?_;refine Wq Qz.move ?_;refine Wg Qz.move ?_;refine Wg Qz.move ?_;refine Wg Qz.lenN ?_;refine Wg Qz.cmpF ?_;refine Wq Qz.pickT ?_;apply AWl.nil;apply AThen.normal;refine AWp.condF (ao rfl) ?_;apply AWp.exit;apply AThen.exit;apply ALoop.exit;apply ABlock.hit;apply AThen.normal;apply AWp.seq;apply AWp.seq;apply AWp.region;refine Wq Qz.move ?_;refine Wq Qz.lenN ?_;refine Wq Qz.move ?_;refine Wq Qz.lenN ?_;refine Wq Qz.cmpF ?_;apply AWl.nil;apply AThen.normal;refine AWp.condF (ao rfl) ?_;apply AWp.skip;apply AThen.normal;apply AWp.seq;apply AWp.seq;apply AWp.region;refine Wq Qz.move ?_;refine Wq Qz.lenN ?_;refine Wq Qz.move ?_;refine Wq Qz.lenN ?_;refine Wq Qz.cmpT ?_;apply AWl.nil;apply AThen.normal;refine AWp.condT (ao rfl) ?_;apply AWp.seq;apply AWp.region;refine Wq Qz.assign ?_;apply AWl.nil;apply AThen.normal;apply AWp.ret;apply AThen.ret
    exact Fin.ret (Rets.of1 (ResV.tmp rfl rfl) (D.le.of_eq (by rw [e])))
  ·have hp : P.drop k = [] := List.drop_eq_nil_of_le (by omega)
   by_cases hlt2:k<Q.length
   ·have e:pcmp P Q = -1:=by
     rw [heq,hp,drop_tAt hlt2,pcmp]
    apply AWp.seq;apply AWp.seq;apply AWp.region;refine Wq Qz.move ?_;refine Wq Qz.move ?_;refine Wq Qz.lenN ?_;refine Wq Qz.cmpF ?_;refine Wq Qz.move ?_;refine Ws ?_;refine Ws ?_;refine Ws ?_;refine Ws ?_;refine Wq Qz.pickF ?_;apply AWl.nil;apply AThen.normal;refine AWp.condF (ao rfl) ?_;apply AWp.exit;apply AThen.exit;apply ALoop.exit;apply ABlock.hit;apply AThen.normal;apply AWp.seq;apply AWp.seq;apply AWp.region;refine Wq Qz.move ?_;refine Wq Qz.lenN ?_;refine Wq Qz.move ?_;refine Wq Qz.lenN ?_;refine Wq Qz.cmpT ?_;apply AWl.nil;apply AThen.normal;refine AWp.condT (ao rfl) ?_;apply AWp.seq;apply AWp.region;refine Wq Qz.assign ?_;apply AWl.nil;apply AThen.normal;apply AWp.ret;apply AThen.ret
    exact Fin.ret (Rets.of1 (ResV.tmp rfl rfl) (D.le.of_eq (by rw [e])))
   ·have e:pcmp P Q = 0:=by
     rw [heq,hp,(List.drop_eq_nil_of_le (by omega):Q.drop k = []),pcmp]
    apply AWp.seq;apply AWp.seq;apply AWp.region;refine Wq Qz.move ?_;refine Wq Qz.move ?_;refine Wq Qz.lenN ?_;refine Wq Qz.cmpF ?_;refine Wq Qz.move ?_;refine Ws ?_;refine Ws ?_;refine Ws ?_;refine Ws ?_;refine Wq Qz.pickF ?_;apply AWl.nil;apply AThen.normal;refine AWp.condF (ao rfl) ?_;apply AWp.exit;apply AThen.exit;apply ALoop.exit;apply ABlock.hit;apply AThen.normal;apply AWp.seq;apply AWp.seq;apply AWp.region;refine Wq Qz.move ?_;refine Wq Qz.lenN ?_;refine Wq Qz.move ?_;refine Wq Qz.lenN ?_;refine Wq Qz.cmpF ?_;apply AWl.nil;apply AThen.normal;refine AWp.condF (ao rfl) ?_;apply AWp.skip;apply AThen.normal;apply AWp.seq;apply AWp.seq;apply AWp.region;refine Wq Qz.move ?_;refine Wq Qz.lenN ?_;refine Wq Qz.move ?_;refine Wq Qz.lenN ?_;refine Wq Qz.cmpF ?_;apply AWl.nil;apply AThen.normal;refine AWp.condF (ao rfl) ?_;apply AWp.skip;apply AThen.normal;apply AWp.seq;apply AWp.region;refine Wq Qz.assign ?_;apply AWl.nil;apply AThen.normal;apply AWp.ret
    exact Fin.ret (Rets.of1 (ResV.tmp rfl rfl) (D.le.of_eq (by rw [e])))
theorem RMonic0_abs (R : List (Nat→Int)):Abs Tryz.prog 60 [polD [],ordD R] (polD []):=by
 refine Abs.intro Tryz.func60 rfl (callFunc_run Tryz.func60 (by kernel_rfl) (by kernel_rfl)) rfl fun s0=>?_
 rw [Tryz.ntmps60]
 apply AWp.seq;apply AWp.region;refine Wq Qz.assign ?_;apply AWl.nil;apply AThen.normal;apply AWp.seq;apply AWp.region;refine Wq Qz.move ?_;refine Wq Qz.move ?_;refine Wq (Qz.call (RLead0_abs R)) ?_;refine Wq Qz.move ?_;refine Wq Qz.ext ?_;refine Wq Qz.ext ?_;refine AWs.al (tab_of rfl) rfl rfl rfl rfl rfl rfl ?_;refine AWs.stF (ao rfl) (ao rfl) rfl (tab_of rfl) rfl rfl rfl ?_;refine Wq Qz.assign ?_;apply AWl.nil;apply AThen.normal;apply AWp.seq;apply AWp.seq;apply AWp.region;refine Wq Qz.move ?_;refine Wq Qz.not ?_;apply AWl.nil;apply AThen.normal;refine AWp.condT (ao rfl) ?_;apply AWp.seq;apply AWp.region;refine Wq Qz.assign ?_;apply AWl.nil;apply AThen.normal;apply AWp.ret;apply AThen.ret
 exact Fin.ret (Rets.of1 (ResV.tmp rfl rfl) (D.le_nilP))
theorem RMonic_abs (s : Tm) (P:List Tm) (R:List (Nat→Int)) (M:Nat) (hR:∀ r∈R,In8 r (-1000) 1000) (hP:PIn (s :: P) 0 65535) (hn:P.length≤90000) (hz:∀ t∈s :: P,t.c ≠ 0) (hPs:PSz (s :: P) M) (hM:M+M≤4398046511103):Abs Tryz.prog 60 [polD (s :: P),ordD R] (polD (tms (leadF R s P).c⁻¹ (fun _=>0) (s :: P))):=by
 have hl:=leadF_mem R P s
 have hlz:=hz _ hl
 have hls:=hPs _ hl
 have e:sclL (leadF R s P).c⁻¹ (s :: P) = tms (leadF R s P).c⁻¹ (fun _=>0) (s :: P):=by rw [sclL,if_neg (rat_inv_ne hlz)]
 refine Abs.intro Tryz.func60 rfl (callFunc_run Tryz.func60 (by kernel_rfl) (by kernel_rfl)) rfl fun s0=>?_
 rw [Tryz.ntmps60]
 apply AWp.seq;apply AWp.region;refine Wq Qz.assign ?_;apply AWl.nil;apply AThen.normal;apply AWp.seq;apply AWp.region;refine Wq Qz.move ?_;refine Wq Qz.move ?_;refine Wq (Qz.call (RLead_abs s P R hR (hP.mono (by omega) (by omega)) (by omega))) ?_;refine Wq Qz.move ?_;refine Wq Qz.ext ?_;refine Wq Qz.ext ?_;refine AWs.al (tab_of rfl) rfl rfl rfl rfl rfl rfl ?_;refine AWs.stF (ao rfl) (ao rfl) rfl (tab_of rfl) rfl rfl rfl ?_;refine Wq Qz.assign ?_;apply AWl.nil;apply AThen.normal;apply AWp.seq;apply AWp.seq;apply AWp.region;refine Wq Qz.move ?_;refine Wq Qz.not ?_;apply AWl.nil;apply AThen.normal;refine AWp.condF (ao rfl) ?_;apply AWp.skip;apply AThen.normal;apply AWp.seq;apply AWp.region;refine Wq Qz.fldP ?_;refine Wq Qz.ldD ?_;refine Wq (Qz.call (RInv_abs (leadF R s P).c M hls (by omega) (rnum_ne hlz))) ?_;refine Wq Qz.move ?_;refine Wq Qz.ext ?_;refine Wq Qz.ext ?_;refine AWs.al (tab_of rfl) rfl rfl rfl rfl rfl rfl ?_;refine AWs.stF (ao rfl) (ao rfl) rfl (tab_of rfl) rfl rfl rfl ?_;refine Wq Qz.assign ?_;apply AWl.nil;apply AThen.normal;apply AWp.seq;apply AWp.region;refine Wq Qz.ldD ?_;refine Wq Qz.move ?_;refine Wq (Qz.call (RScale_abs (leadF R s P).c⁻¹ (s :: P) M M (hls.inv (rnum_ne hlz)) hPs hP (by simp;omega) (by omega))) ?_;refine Wq Qz.assign ?_;apply AWl.nil;apply AThen.normal;apply AWp.ret
 exact Fin.ret (Rets.of1 (ResV.tmp rfl rfl) (D.le_pol e))
end Go.Proofs.YteicdddphdomkaaGreat
namespace Go.Proofs.YteicdddphdomkaaGreat
open Go.RowKit
theorem AWp.nilOwn {P : Program} {s0:An} {n:Nat} {Q:Exit→AS→Prop} {c:Code} {fr:List (Nat × AV)} {hp hp':List Ow} {m:Nat} (t T sz:Nat) (h:look fr t = some (.d (ex (.slice none 0 0)))) (hT:T ≠ 137) (h0:0<sz) (hm:lenO hp = some m) (hs:snocO hp (.row T sz []) = some hp') (k:AWp P s0 n c Q ⟨(t,.own m) :: fr,hp'⟩):AWp P s0 n c Q ⟨fr,hp⟩:=by
 rw [snocO_eq hs] at k
 obtain rfl:=lenO_eq hm
 refine ⟨fun a w ⟨s,ρ,hw,hst⟩=>?_⟩
 have hv:a.tmps.getD t undef = .slice none 0 0:=hst.fr t _ h
 have hlt:t<a.tmps.size:=by
  rcases Nat.lt_or_ge t a.tmps.size with h1 | h1
  ·exact h1
  ·simp [h1,undef] at hv
 have hg:a.tmps[t]? = some (.slice none 0 0):=by
  rw [Array.getD_eq_getD_getElem?,Array.getElem?_eq_getElem hlt] at hv
  rw [Array.getElem?_eq_getElem hlt]
  exact congrArg some hv
 have hput:a.put (some t) (.slice none 0 0) = a:=by
  unfold Act.put
  have:a.tmps.setIfInBounds t (.slice none 0 0) = a.tmps:=by
   apply Array.ext_getElem?
   intro i
   by_cases hi:t = i
   ·subst hi;rw [hg];simp [hlt]
   ·rw [Array.getElem?_setIfInBounds_ne hi]
  simp only [this]
 have := hst.new (GS.Le.refl s) (dst := some t) (v := .slice none 0 0) (u := .slice none 0 0) (r := .own hp.length) (ow := .row T sz []) (fun d hd => by cases hd; rw [← hst.sz]; exact hlt) ⟨Nat.lt_succ_self _, by simp⟩
  ⟨[],by simp only [if_pos];exact ⟨by simp,.inl ⟨rfl,rfl⟩⟩,hT,h0,fun b hb=>by simp [vblk] at hb,fun k hk=>absurd hk (Nat.not_lt_zero k)⟩ (fun b hb=>by cases hb)
 rw [hput] at this
 exact k.run a w ⟨s,_,hw,this⟩
end Go.Proofs.YteicdddphdomkaaGreat
namespace Go.Proofs.YteicdddphdomkaaGreat
open Go.RowKit
set_option maxRecDepth 100000
def maxTo (a b:Nat→Int) (k:Nat):Nat→Int:=fun j=>if j<k then max (a j) (b j) else a j
theorem maxTo_set (a b:Nat→Int) (k:Nat):setM (maxTo a b k) k (max (a k) (b k)) = maxTo a b (k+1):=by
 funext j
 simp only [setM,maxTo]
 rcases Nat.lt_trichotomy j k with h | h | h
 ·rw [if_neg (by omega),if_pos h,if_pos (by omega)]
 ·subst h;simp
 ·rw [if_neg (by omega),if_neg (by omega),if_neg (by omega)]
theorem maxTo_at (a b:Nat→Int) (k:Nat):maxTo a b k k = a k:=if_neg (Nat.lt_irrefl k)
def max8 (a b:Nat→Int):Nat→Int:=fun j=>max (a j) (b j)
theorem mLcm_abs (a b:Nat→Int):Abs Tryz.prog 148 [agD (monC a),agD (monC b)] (agD (monC (max8 a b))):=by
 refine Abs.intro Tryz.func148 rfl (callFunc_run Tryz.func148 (by kernel_rfl) (by kernel_rfl)) rfl fun s0=>?_
 rw [Tryz.ntmps148]
 apply AWp.seq;apply AWp.region;refine AWs.bx (ao rfl) rfl rfl rfl rfl ?_;refine AWs.bx (ao rfl) rfl rfl rfl rfl ?_;refine AWs.al (tab_of rfl) rfl rfl rfl rfl rfl rfl ?_;apply AWl.nil;apply AThen.normal;apply AWp.seq;apply AWp.seq;apply AWp.region;refine Wq Qz.move ?_;apply AWl.nil;apply AThen.normal;apply AWp.block
 refine AWp.loop (fun mz σ=>∃ k,k≤8∧mz = 8 - k∧σ = ⟨[(2,.ptr 0 0),(3,.ptr 1 0),(4,.ptr 2 0),(6,.d (ex (.int .i64 (k:Nat))))],[.var 31 ((monC (maxTo a b k)).map .d),.var 31 ((monC b).map .d),.var 31 ((monC fun _=>0).map .d)]⟩) ?le ⟨0,by omega,rfl,rfl⟩ ?round
 case le=>exact AS.le_of (by refine FrLe.cons rfl (AVle.ptr rfl) ?_;refine FrLe.cons rfl (AVle.ptr rfl) ?_;refine FrLe.cons rfl (AVle.ptr rfl) ?_;refine FrLe.cons rfl (AVle.d rfl) ?_;exact FrLe.nil) (by refine HpLe.cons (OwLe.varD rfl) ?_;refine HpLe.cons (OwLe.varD rfl) ?_;refine HpLe.cons (OwLe.varD rfl) ?_;exact HpLe.nil)
 case round =>
  rintro mz _ ⟨k,hk,rfl,rfl⟩
  by_cases hlt:k<8
  ·have h1:=maxTo_at a b k
   apply AWp.seq;apply AWp.region;refine Wq Qz.cmpT ?_;apply AWl.nil;apply AThen.normal;apply AWp.seq;refine AWp.condT (ao rfl) ?_;apply AWp.skip;apply AThen.normal;apply AWp.seq;apply AWp.block;apply AWp.seq;apply AWp.region;refine Wq Qz.move ?_;refine Wq Qz.assign ?_;apply AWl.nil;apply AThen.normal
   refine AWp.dr' (DrawOk.self (by kernel_rfl)) [[],[],[(10,1)],[(11,2)],[],[(13,4)],[(14,5)],[(12,3),(15,6)],[(9,0)]] [[],[],[1],[1,2],[],[4],[4,5],[1,2,3,4,5,6],[0,1,2,3,4,5,6,7]] rfl (by kernel_rfl) (by kernel_rfl) (by kernel_rfl) ?_
   refine Xq Qz.move ?_;refine Xq Qz.move ?_;refine Xq Qz.ixP ?_;refine Xq Qz.ldX1 ?_;refine Xq Qz.move ?_;refine Xq Qz.ixP ?_;refine Xq Qz.ldX1 ?_;refine Xq Qz.max ?_;refine Xq Qz.ixP ?_;refine ⟨_,rfl,?_⟩
   (refine AWs.stX1 (ao rfl) (ao rfl) rfl (tab_of rfl) (by first | exact One.ex_ rfl | exact One.sl | exact One.ep) (SetAt.mon (by first | omega | (simp;omega))) rfl ?_);apply AWl.nil;apply ABlock.normal;apply AThen.normal;apply AWp.region;refine Wq Qz.succ ?_;refine Wq Qz.move ?_;apply AWl.nil
   refine ALoop.next (8 - (k+1)) (by omega) ⟨k+1,by omega,rfl,rfl⟩ ?_
   exact AS.le_of (by refine FrLe.cons rfl (AVle.ptr rfl) ?_;refine FrLe.cons rfl (AVle.ptr rfl) ?_;refine FrLe.cons rfl (AVle.ptr rfl) ?_;refine FrLe.cons rfl (AVle.d rfl) ?_;exact FrLe.nil) (by refine HpLe.cons (OwLe.varD (by rw [h1,maxTo_set])) ?_;refine HpLe.cons (OwLe.varD rfl) ?_;refine HpLe.cons (OwLe.varD rfl) ?_;exact HpLe.nil)
  ·obtain rfl : k = 8 := by omega
   apply AWp.seq;apply AWp.region;refine Wq Qz.cmpF ?_;apply AWl.nil;apply AThen.normal;apply AWp.seq;refine AWp.condF (ao rfl) ?_;apply AWp.exit;apply AThen.exit;apply ALoop.exit;apply ABlock.hit;apply AThen.normal;apply AWp.seq;apply AWp.region;refine Wq Qz.ldD ?_;refine AWs.stF (ao rfl) (ao rfl) rfl (tab_of rfl) rfl rfl rfl ?_;apply AWl.nil;apply AThen.normal;apply AWp.ret
   exact Fin.ret (Rets.of1 (ResV.cell rfl rfl (tab_of rfl) rfl rfl rfl) (D.le.refl _))
def degV (P : List Tm):Nat→Int:=P.foldl (fun d t=>max8 d t.m) fun _=>0
theorem degV_take {P : List Tm} {k:Nat} (h:k<P.length):degV (P.take (k+1)) = max8 (degV (P.take k)) (tAt P k).m:=foldl_tAt (fun d t=>max8 d t.m) (fun _=>0) h
theorem degV_in {P : List Tm} {d:Int} (h:PIn P 0 d) (h0:0≤d):In8 (degV P) 0 d:=by
 have key:∀ (P:List Tm) (a:Nat→Int),PIn P 0 d→In8 a 0 d→In8 (P.foldl (fun d t=>max8 d t.m) a) 0 d:=by
  intro P
  induction P with
  | nil=>intro a _ h;exact h
  | cons t P ih =>
   intro a h1 h2
   refine ih _ (fun u hu=>h1 u (by simp [hu])) fun i hi=>?_
   have:=h1 t (by simp) i hi
   have:=h2 i hi
   simp only [max8];omega
 exact key P _ h fun i _=>⟨Int.le_refl _,h0⟩
theorem degs_abs (P : List Tm) (hn:P.length≤1000000):Abs Tryz.prog 110 [polD P] (agD (monC (degV P))):=by
 refine Abs.intro Tryz.func110 rfl (callFunc_run Tryz.func110 (by kernel_rfl) (by kernel_rfl)) rfl fun s0=>?_
 rw [Tryz.ntmps110]
 apply AWp.seq;apply AWp.region;refine AWs.al (tab_of rfl) rfl rfl rfl rfl rfl rfl ?_;apply AWl.nil;apply AThen.normal;apply AWp.seq;apply AWp.region;refine AWs.al (tab_of rfl) rfl rfl rfl rfl rfl rfl ?_;apply AWl.nil;apply AThen.normal;apply AWp.seq;apply AWp.seq;apply AWp.region;refine Wq Qz.move ?_;refine Wq Qz.lenN ?_;refine Wq Qz.move ?_;apply AWl.nil;apply AThen.normal;apply AWp.block
 refine AWp.loop (fun mz σ=>∃ k,k≤P.length∧mz = P.length - k∧σ = ⟨[(2,.ptr 0 0),(3,.ptr 1 0),(6,.d (polD P)),(7,.d (ex (.int .i64 (P.length:Nat)))),(8,.d (ex (.int .i64 (k:Nat))))],[.var 30 ((monC fun _=>0).map .d),.var 31 ((monC (degV (P.take k))).map .d)]⟩) ?le ⟨0,by omega,rfl,rfl⟩ ?round
 case le=>exact AS.le_of (by refine FrLe.cons rfl (AVle.ptr rfl) ?_;refine FrLe.cons rfl (AVle.ptr rfl) ?_;refine FrLe.cons rfl (AVle.d rfl) ?_;refine FrLe.cons rfl (AVle.d rfl) ?_;refine FrLe.cons rfl (AVle.d rfl) ?_;exact FrLe.nil) (by refine HpLe.cons (OwLe.varD rfl) ?_;refine HpLe.cons (OwLe.varD rfl) ?_;exact HpLe.nil)
 case round =>
  rintro mz _ ⟨k,hk,rfl,rfl⟩
  by_cases hlt:k<P.length
  ·have hst:=degV_take hlt
   apply AWp.seq;apply AWp.region;refine Wq Qz.cmpT ?_;apply AWl.nil;apply AThen.normal;apply AWp.seq;refine AWp.condT (ao rfl) ?_;apply AWp.skip;apply AThen.normal;apply AWp.seq;apply AWp.block;apply AWp.seq;apply AWp.region;refine Wq Qz.indexN ?_;refine Wq Qz.loadEf ?_;refine AWs.al (tab_of rfl) rfl rfl rfl rfl rfl rfl ?_;refine AWs.stF (ao rfl) (ao rfl) rfl (tab_of rfl) rfl rfl rfl ?_;apply AWl.nil;apply AThen.normal;apply AWp.region;refine Wq Qz.ldD ?_;refine Wq Qz.fldP ?_;refine Wq Qz.ldD ?_;refine Wq (Qz.call (mLcm_abs (degV (P.take k)) (tAt P k).m)) ?_;refine AWs.stF (ao rfl) (ao rfl) rfl (tab_of rfl) rfl rfl rfl ?_;apply AWl.nil;apply ABlock.normal;apply AThen.normal;apply AWp.region;refine Wq Qz.succ ?_;refine Wq Qz.move ?_;apply AWl.nil
   refine ALoop.next (P.length - (k+1)) (by omega) ⟨k+1,by omega,rfl,rfl⟩ ?_
   exact AS.le_of (by refine FrLe.cons rfl (AVle.ptr rfl) ?_;refine FrLe.cons rfl (AVle.ptr rfl) ?_;refine FrLe.cons rfl (AVle.d rfl) ?_;refine FrLe.cons rfl (AVle.d rfl) ?_;refine FrLe.cons rfl (AVle.d rfl) ?_;exact FrLe.nil) (by refine HpLe.cons (OwLe.varD rfl) ?_;refine HpLe.cons (OwLe.varD (by rw [hst])) ?_;exact HpLe.nil)
  ·obtain rfl : k = P.length := by omega
   apply AWp.seq;apply AWp.region;refine Wq Qz.cmpF ?_;apply AWl.nil;apply AThen.normal;apply AWp.seq;refine AWp.condF (ao rfl) ?_;apply AWp.exit;apply AThen.exit;apply ALoop.exit;apply ABlock.hit;apply AThen.normal;apply AWp.seq;apply AWp.region;refine Wq Qz.ldD ?_;refine AWs.stF (ao rfl) (ao rfl) rfl (tab_of rfl) rfl rfl rfl ?_;apply AWl.nil;apply AThen.normal;apply AWp.ret
   exact Fin.ret (Rets.of1 (ResV.cell rfl rfl (tab_of rfl) rfl rfl rfl) (D.le.of_eq (by rw [List.take_length];rfl)))
def powF (P : List Tm):Nat→List Tm
 | 0=>constL (1:Int)
 | k+1=>pmul (powF P k) P
theorem RPow_abs {P : List Tm} {n N L M:Nat} {d E:Int} (z:Nat) (hP:PB P n N d) (hb:∀ k,k≤z→PB (powF P k) L M E) (hz:z≤64) (h0:0≤d) (h0':0≤E) (hd:E+d≤65535) (hn0:L≤100000) (hn:L*n+n≤100000) (hN:L*(M+N+1)+M+N+1≤4398046511102):Abs Tryz.prog 54 [polD P,ex (.int .i64 (z:Nat))] (tupD [polD (powF P z),ex (.int .i64 0)]):=by
 refine Abs.intro Tryz.func54 rfl (callFunc_run Tryz.func54 (by kernel_rfl) (by kernel_rfl)) rfl fun s0=>?_
 rw [Tryz.ntmps54]
 apply AWp.seq;apply AWp.region;refine Wq Qz.assign ?_;refine Wq Qz.assign ?_;apply AWl.nil;apply AThen.normal;apply AWp.seq;apply AWp.seq;apply AWp.region;refine Wq Qz.move ?_;refine Wq Qz.cmpF ?_;refine Wq Qz.move ?_;refine Wg Qz.move ?_;refine Wg Qz.cmpF ?_;refine Wq Qz.pickF ?_;apply AWl.nil;apply AThen.normal;refine AWp.condF (ao rfl) ?_;apply AWp.skip;apply AThen.normal;apply AWp.seq;apply AWp.region;refine Wq (Qz.call (RInt_abs 1 (by omega) (by omega))) ?_;refine Wq Qz.assign ?_;apply AWl.nil;apply AThen.normal;apply AWp.seq;apply AWp.seq;apply AWp.region;refine Wq Qz.assign ?_;apply AWl.nil;apply AThen.normal;apply AWp.block
 refine AWp.loop (fun mz σ=>∃ k,k≤z∧mz = z - k∧σ = ⟨[(0,.d (polD P)),(1,.d (ex (.int .i64 (z:Nat)))),(6,.d (polD (powF P k))),(7,.d (ex (.int .i64 (k:Nat))))],[]⟩) ?le ⟨0,by omega,rfl,rfl⟩ ?round
 case le=>exact AS.le_of (by refine FrLe.cons rfl (AVle.d rfl) ?_;refine FrLe.cons rfl (AVle.d rfl) ?_;refine FrLe.cons rfl (AVle.d rfl) ?_;refine FrLe.cons rfl (AVle.d rfl) ?_;exact FrLe.nil) (by exact HpLe.nil)
 case round =>
  rintro mz _ ⟨k,hk,rfl,rfl⟩
  by_cases hlt:k<z
  ·have h1 := hb k (by omega)
   apply AWp.seq;apply AWp.seq;apply AWp.region;refine Wq Qz.move ?_;refine Wq Qz.move ?_;refine Wq Qz.cmpT ?_;apply AWl.nil;apply AThen.normal;refine AWp.condT (ao rfl) ?_;apply AWp.skip;apply AThen.normal;apply AWp.seq;apply AWp.block;apply AWp.seq;apply AWp.region;refine Wq Qz.move ?_;refine Wq Qz.move ?_;refine Wq (Qz.call (RPMul_pb h1 hP h0' h0 hd hn0 hn hN)) ?_;refine Wq Qz.move ?_;refine Wq Qz.ext ?_;refine Wq Qz.ext ?_;refine Wq Qz.assign ?_;refine Wq Qz.assign ?_;apply AWl.nil;apply AThen.normal;apply AWp.seq;apply AWp.seq;apply AWp.region;refine Wq Qz.move ?_;refine Wq Qz.cmpF ?_;apply AWl.nil;apply AThen.normal;refine AWp.condF (ao rfl) ?_;apply AWp.skip;apply AThen.normal;apply AWp.region;refine Wq Qz.move ?_;refine Wq Qz.assign ?_;apply AWl.nil;apply ABlock.normal;apply AThen.normal;apply AWp.region;refine Wq Qz.move ?_;refine Wq Qz.succ ?_;refine Wq Qz.assign ?_;apply AWl.nil
   refine ALoop.next (z - (k+1)) (by omega) ⟨k+1,by omega,rfl,rfl⟩ ?_
   exact AS.le_of (by refine FrLe.cons rfl (AVle.d rfl) ?_;refine FrLe.cons rfl (AVle.d rfl) ?_;refine FrLe.cons rfl (AVle.d rfl) ?_;refine FrLe.cons rfl (AVle.d rfl) ?_;exact FrLe.nil) (by exact HpLe.nil)
  ·obtain rfl : k = z := by omega
   apply AWp.seq;apply AWp.seq;apply AWp.region;refine Wq Qz.move ?_;refine Wq Qz.move ?_;refine Wq Qz.cmpF ?_;apply AWl.nil;apply AThen.normal;refine AWp.condF (ao rfl) ?_;apply AWp.exit;apply AThen.exit;apply ALoop.exit;apply ABlock.hit;apply AThen.normal;apply AWp.seq;apply AWp.region;refine Wq Qz.move ?_;refine Wq Qz.assign ?_;refine Wq Qz.assign ?_;apply AWl.nil;apply AThen.normal;apply AWp.ret
   exact Fin.ret (Rets.of2 (ResV.tmp rfl rfl) (ResV.tmp rfl rfl) (D.le.tup2 (D.le.refl _) (D.le.refl _)))
theorem RPowF_abs (P : List Tm) (z:Int) (hz:z<0∨64<z):Abs Tryz.prog 54 [polD P,ex (.int .i64 z)] (tupD [polD [],ex (.int .i64 1)]):=by
 rcases (show z<0∨(0≤z∧64<z) by omega) with h | ⟨h0,h⟩
 ·refine Abs.intro Tryz.func54 rfl (callFunc_run Tryz.func54 (by kernel_rfl) (by kernel_rfl)) rfl fun s0 => ?_
  rw [Tryz.ntmps54]
  apply AWp.seq;apply AWp.region;refine Wq Qz.assign ?_;refine Wq Qz.assign ?_;apply AWl.nil;apply AThen.normal;apply AWp.seq;apply AWp.seq;apply AWp.region;refine Wq Qz.move ?_;refine Wq Qz.cmpT ?_;refine Wq Qz.move ?_;refine Ws ?_;refine Ws ?_;refine Wq Qz.pickT ?_;apply AWl.nil;apply AThen.normal;refine AWp.condT (ao rfl) ?_;apply AWp.seq;apply AWp.region;refine Wq Qz.assign ?_;refine Wq Qz.assign ?_;apply AWl.nil;apply AThen.normal;apply AWp.ret;apply AThen.ret
  exact Fin.ret (Rets.of2 (ResV.tmp rfl rfl) (ResV.tmp rfl rfl) (D.le.tup2 (D.le_nilP) (D.le.refl _)))
 ·refine Abs.intro Tryz.func54 rfl (callFunc_run Tryz.func54 (by kernel_rfl) (by kernel_rfl)) rfl fun s0 => ?_
  rw [Tryz.ntmps54]
  apply AWp.seq;apply AWp.region;refine Wq Qz.assign ?_;refine Wq Qz.assign ?_;apply AWl.nil;apply AThen.normal;apply AWp.seq;apply AWp.seq;apply AWp.region;refine Wq Qz.move ?_;refine Wq Qz.cmpF ?_;refine Wq Qz.move ?_;refine Wg Qz.move ?_;refine Wg Qz.cmpT ?_;refine Wq Qz.pickF ?_;apply AWl.nil;apply AThen.normal;refine AWp.condT (ao rfl) ?_;apply AWp.seq;apply AWp.region;refine Wq Qz.assign ?_;refine Wq Qz.assign ?_;apply AWl.nil;apply AThen.normal;apply AWp.ret;apply AThen.ret
  exact Fin.ret (Rets.of2 (ResV.tmp rfl rfl) (ResV.tmp rfl rfl) (D.le.tup2 (D.le_nilP) (D.le.refl _)))
theorem PPowF_abs (P : List Tm) (z:Int) (hz:z<0∨64<z):Abs Tryz.prog 53 [polD P,ex (.int .i64 z)] (tupD [polD [],ex (.int .i64 1)]):=by
 rcases (show z<0∨(0≤z∧64<z) by omega) with h | ⟨h0,h⟩
 ·refine Abs.intro Tryz.func53 rfl (callFunc_run Tryz.func53 (by kernel_rfl) (by kernel_rfl)) rfl fun s0 => ?_
  rw [Tryz.ntmps53]
  apply AWp.seq;apply AWp.region;refine Wq Qz.assign ?_;refine Wq Qz.assign ?_;apply AWl.nil;apply AThen.normal;apply AWp.seq;apply AWp.seq;apply AWp.region;refine Wq Qz.move ?_;refine Wq Qz.cmpT ?_;refine Wq Qz.move ?_;refine Ws ?_;refine Ws ?_;refine Wq Qz.pickT ?_;apply AWl.nil;apply AThen.normal;refine AWp.condT (ao rfl) ?_;apply AWp.seq;apply AWp.region;refine Wq Qz.assign ?_;refine Wq Qz.assign ?_;apply AWl.nil;apply AThen.normal;apply AWp.ret;apply AThen.ret
  exact Fin.ret (Rets.of2 (ResV.tmp rfl rfl) (ResV.tmp rfl rfl) (D.le.tup2 (D.le_nilP) (D.le.refl _)))
 ·refine Abs.intro Tryz.func53 rfl (callFunc_run Tryz.func53 (by kernel_rfl) (by kernel_rfl)) rfl fun s0 => ?_
  rw [Tryz.ntmps53]
  apply AWp.seq;apply AWp.region;refine Wq Qz.assign ?_;refine Wq Qz.assign ?_;apply AWl.nil;apply AThen.normal;apply AWp.seq;apply AWp.seq;apply AWp.region;refine Wq Qz.move ?_;refine Wq Qz.cmpF ?_;refine Wq Qz.move ?_;refine Wg Qz.move ?_;refine Wg Qz.cmpT ?_;refine Wq Qz.pickF ?_;apply AWl.nil;apply AThen.normal;refine AWp.condT (ao rfl) ?_;apply AWp.seq;apply AWp.region;refine Wq Qz.assign ?_;refine Wq Qz.assign ?_;apply AWl.nil;apply AThen.normal;apply AWp.ret;apply AThen.ret
  exact Fin.ret (Rets.of2 (ResV.tmp rfl rfl) (ResV.tmp rfl rfl) (D.le.tup2 (D.le_nilP) (D.le.refl _)))
theorem PPow_abs {P : List Tm} {n N L M:Nat} {d E:Int} (z:Nat) (hP:PB P n N d) (hb:∀ k,k≤z→PB (powF P k) L M E) (hz:z≤64) (h0:0≤d) (h0':0≤E) (hd:E+d≤65535) (hdz:d*(z:Int)≤65535) (hn0:n≤100000) (hn:L*n≤100000) (hN:M+N+1≤10000000):Abs Tryz.prog 53 [polD P,ex (.int .i64 (z:Nat))] (tupD [polD (powF P z),ex (.int .i64 0)]):=by
 have hPl:=hP.len
 have hv:=degV_in hP.ex h0
 refine Abs.intro Tryz.func53 rfl (callFunc_run Tryz.func53 (by kernel_rfl) (by kernel_rfl)) rfl fun s0=>?_
 rw [Tryz.ntmps53]
 apply AWp.seq;apply AWp.region;refine Wq Qz.assign ?_;refine Wq Qz.assign ?_;apply AWl.nil;apply AThen.normal;apply AWp.seq;apply AWp.seq;apply AWp.region;refine Wq Qz.move ?_;refine Wq Qz.cmpF ?_;refine Wq Qz.move ?_;refine Wg Qz.move ?_;refine Wg Qz.cmpF ?_;refine Wq Qz.pickF ?_;apply AWl.nil;apply AThen.normal;refine AWp.condF (ao rfl) ?_;apply AWp.skip;apply AThen.normal;apply AWp.seq;apply AWp.seq;apply AWp.region;refine Wq Qz.move ?_;refine Wq (Qz.call (degs_abs P (by omega))) ?_;refine Wq Qz.move ?_;apply AWl.nil;apply AThen.normal;apply AWp.block
 refine AWp.loop (fun mz σ=>∃ k,k≤8∧mz = 8 - k∧σ = ⟨[(0,.d (polD P)),(1,.d (ex (.int .i64 (z:Nat)))),(16,.d (agD (monC (degV P)))),(17,.d (ex (.int .i64 (k:Nat))))],[]⟩) ?le ⟨0,by omega,rfl,rfl⟩ ?round
 case le=>exact AS.le_of (by refine FrLe.cons rfl (AVle.d rfl) ?_;refine FrLe.cons rfl (AVle.d rfl) ?_;refine FrLe.cons rfl (AVle.d rfl) ?_;refine FrLe.cons rfl (AVle.d rfl) ?_;exact FrLe.nil) (by exact HpLe.nil)
 case round =>
  rintro mz _ ⟨k,hk,rfl,rfl⟩
  by_cases hlt:k<8
  ·have hk2:=hv k hlt
   have hm:degV P k*(z:Int)≤d*(z:Int):=Int.mul_le_mul_of_nonneg_right hk2.2 (by omega)
   have hm0:0≤degV P k*(z:Int):=Int.mul_nonneg hk2.1 (by omega)
   apply AWp.seq;apply AWp.region;refine Wq Qz.cmpT ?_;apply AWl.nil;apply AThen.normal;apply AWp.seq;refine AWp.condT (ao rfl) ?_;apply AWp.skip;apply AThen.normal;apply AWp.seq;apply AWp.block;apply AWp.seq;apply AWp.region;refine Wq Qz.atX1 ?_;refine Wq Qz.assign ?_;apply AWl.nil;apply AThen.normal;apply AWp.seq;apply AWp.region;refine Wq Qz.move ?_;refine Wq Qz.move ?_;refine Wq Qz.mul ?_;refine Wq Qz.cmpF ?_;apply AWl.nil;apply AThen.normal;refine AWp.condF (ao rfl) ?_;apply AWp.skip;apply ABlock.normal;apply AThen.normal;apply AWp.region;refine Wq Qz.succ ?_;refine Wq Qz.move ?_;apply AWl.nil
   refine ALoop.next (8 - (k+1)) (by omega) ⟨k+1,by omega,rfl,rfl⟩ ?_
   exact AS.le_of (by refine FrLe.cons rfl (AVle.d rfl) ?_;refine FrLe.cons rfl (AVle.d rfl) ?_;refine FrLe.cons rfl (AVle.d rfl) ?_;refine FrLe.cons rfl (AVle.d rfl) ?_;exact FrLe.nil) (by exact HpLe.nil)
  ·obtain rfl : k = 8 := by omega
   apply AWp.seq;apply AWp.region;refine Wq Qz.cmpF ?_;apply AWl.nil;apply AThen.normal;apply AWp.seq;refine AWp.condF (ao rfl) ?_;apply AWp.exit;apply AThen.exit;apply ALoop.exit;apply ABlock.hit;apply AThen.normal;apply AWp.seq;apply AWp.region;refine Wq (Qz.call (Whole_abs 1 (by omega) (by omega))) ?_;refine Wq (Qz.call (PConst_abs (1:Int))) ?_;refine Wq Qz.assign ?_;apply AWl.nil;apply AThen.normal;apply AWp.seq;apply AWp.seq;apply AWp.region;refine Wq Qz.move ?_;refine Wq Qz.move ?_;apply AWl.nil;apply AThen.normal;apply AWp.block
   refine AWp.loop (fun mz σ=>∃ i,i≤z∧mz = z - i∧σ = ⟨[(0,.d (polD P)),(8,.d (polD (powF P i))),(27,.d (ex (.int .i64 (z:Nat)))),(28,.d (ex (.int .i64 (i:Nat))))],[]⟩) ?lei ⟨0,by omega,rfl,rfl⟩ ?roundi
   case lei=>exact AS.le_of (by refine FrLe.cons rfl (AVle.d rfl) ?_;refine FrLe.cons rfl (AVle.d rfl) ?_;refine FrLe.cons rfl (AVle.d rfl) ?_;refine FrLe.cons rfl (AVle.d rfl) ?_;exact FrLe.nil) (by exact HpLe.nil)
   case roundi =>
    rintro mz _ ⟨i,hi,rfl,rfl⟩
    by_cases hlti:i<z
    ·have h1 := hb i (by omega)
     apply AWp.seq;apply AWp.region;refine Wq Qz.cmpT ?_;apply AWl.nil;apply AThen.normal;apply AWp.seq;refine AWp.condT (ao rfl) ?_;apply AWp.skip;apply AThen.normal;apply AWp.seq;apply AWp.block;apply AWp.region;refine Wq Qz.move ?_;refine Wq Qz.move ?_;refine Wq (Qz.call (PMul_pb h1 hP h0' h0 hd hn hN)) ?_;refine Wq Qz.move ?_;refine Wq Qz.ext ?_;refine Wq Qz.ext ?_;refine Wq Qz.assign ?_;apply AWl.nil;apply ABlock.normal;apply AThen.normal;apply AWp.region;refine Wq Qz.succ ?_;refine Wq Qz.move ?_;apply AWl.nil
     refine ALoop.next (z - (i+1)) (by omega) ⟨i+1,by omega,rfl,rfl⟩ ?_
     exact AS.le_of (by refine FrLe.cons rfl (AVle.d rfl) ?_;refine FrLe.cons rfl (AVle.d rfl) ?_;refine FrLe.cons rfl (AVle.d rfl) ?_;refine FrLe.cons rfl (AVle.d rfl) ?_;exact FrLe.nil) (by exact HpLe.nil)
    ·obtain rfl : i = z := by omega
     apply AWp.seq;apply AWp.region;refine Wq Qz.cmpF ?_;apply AWl.nil;apply AThen.normal;apply AWp.seq;refine AWp.condF (ao rfl) ?_;apply AWp.exit;apply AThen.exit;apply ALoop.exit;apply ABlock.hit;apply AThen.normal;apply AWp.seq;apply AWp.region;refine Wq Qz.move ?_;refine Wq Qz.assign ?_;refine Wq Qz.assign ?_;apply AWl.nil;apply AThen.normal;apply AWp.ret
     exact Fin.ret (Rets.of2 (ResV.tmp rfl rfl) (ResV.tmp rfl rfl) (D.le.tup2 (D.le.refl _) (D.le.refl _)))
end Go.Proofs.YteicdddphdomkaaGreat
namespace Go.Proofs.YteicdddphdomkaaGreat
open Go.RowKit
set_option maxRecDepth 100000
theorem PPartF_abs (P : List Tm) (i:Int) (hi:i<0∨7<i):Abs Tryz.prog 24 [polD P,ex (.int .i64 i)] (tupD [polD [],ex (.int .i64 1)]):=by
 rcases (show i<0∨(0≤i∧7<i) by omega) with h | ⟨h0,h⟩
 ·refine Abs.intro Tryz.func24 rfl (callFunc_run Tryz.func24 (by kernel_rfl) (by kernel_rfl)) rfl fun s0 => ?_
  rw [Tryz.ntmps24]
  apply AWp.seq;apply AWp.region;refine Wq Qz.assign ?_;refine Wq Qz.assign ?_;apply AWl.nil;apply AThen.normal;apply AWp.seq;apply AWp.seq;apply AWp.region;refine Wq Qz.move ?_;refine Wq Qz.cmpT ?_;refine Wq Qz.move ?_;refine Ws ?_;refine Ws ?_;refine Wq Qz.pickT ?_;apply AWl.nil;apply AThen.normal;refine AWp.condT (ao rfl) ?_;apply AWp.seq;apply AWp.region;refine Wq Qz.assign ?_;refine Wq Qz.assign ?_;apply AWl.nil;apply AThen.normal;apply AWp.ret;apply AThen.ret
  exact Fin.ret (Rets.of2 (ResV.tmp rfl rfl) (ResV.tmp rfl rfl) (D.le.tup2 (D.le_nilP) (D.le.refl _)))
 ·refine Abs.intro Tryz.func24 rfl (callFunc_run Tryz.func24 (by kernel_rfl) (by kernel_rfl)) rfl fun s0 => ?_
  rw [Tryz.ntmps24]
  apply AWp.seq;apply AWp.region;refine Wq Qz.assign ?_;refine Wq Qz.assign ?_;apply AWl.nil;apply AThen.normal;apply AWp.seq;apply AWp.seq;apply AWp.region;refine Wq Qz.move ?_;refine Wq Qz.cmpF ?_;refine Wq Qz.move ?_;refine Wg Qz.move ?_;refine Wg Qz.cmpT ?_;refine Wq Qz.pickF ?_;apply AWl.nil;apply AThen.normal;refine AWp.condT (ao rfl) ?_;apply AWp.seq;apply AWp.region;refine Wq Qz.assign ?_;refine Wq Qz.assign ?_;apply AWl.nil;apply AThen.normal;apply AWp.ret;apply AThen.ret
  exact Fin.ret (Rets.of2 (ResV.tmp rfl rfl) (ResV.tmp rfl rfl) (D.le.tup2 (D.le_nilP) (D.le.refl _)))
theorem RPartF_abs (P : List Tm) (i:Int) (hi:i<0∨7<i):Abs Tryz.prog 55 [polD P,ex (.int .i64 i)] (tupD [polD [],ex (.int .i64 1)]):=by
 rcases (show i<0∨(0≤i∧7<i) by omega) with h | ⟨h0,h⟩
 ·refine Abs.intro Tryz.func55 rfl (callFunc_run Tryz.func55 (by kernel_rfl) (by kernel_rfl)) rfl fun s0 => ?_
  rw [Tryz.ntmps55]
  apply AWp.seq;apply AWp.region;refine Wq Qz.assign ?_;refine Wq Qz.assign ?_;apply AWl.nil;apply AThen.normal;apply AWp.seq;apply AWp.seq;apply AWp.region;refine Wq Qz.move ?_;refine Wq Qz.cmpT ?_;refine Wq Qz.move ?_;refine Ws ?_;refine Ws ?_;refine Wq Qz.pickT ?_;apply AWl.nil;apply AThen.normal;refine AWp.condT (ao rfl) ?_;apply AWp.seq;apply AWp.region;refine Wq Qz.assign ?_;refine Wq Qz.assign ?_;apply AWl.nil;apply AThen.normal;apply AWp.ret;apply AThen.ret
  exact Fin.ret (Rets.of2 (ResV.tmp rfl rfl) (ResV.tmp rfl rfl) (D.le.tup2 (D.le_nilP) (D.le.refl _)))
 ·refine Abs.intro Tryz.func55 rfl (callFunc_run Tryz.func55 (by kernel_rfl) (by kernel_rfl)) rfl fun s0 => ?_
  rw [Tryz.ntmps55]
  apply AWp.seq;apply AWp.region;refine Wq Qz.assign ?_;refine Wq Qz.assign ?_;apply AWl.nil;apply AThen.normal;apply AWp.seq;apply AWp.seq;apply AWp.region;refine Wq Qz.move ?_;refine Wq Qz.cmpF ?_;refine Wq Qz.move ?_;refine Wg Qz.move ?_;refine Wg Qz.cmpT ?_;refine Wq Qz.pickF ?_;apply AWl.nil;apply AThen.normal;refine AWp.condT (ao rfl) ?_;apply AWp.seq;apply AWp.region;refine Wq Qz.assign ?_;refine Wq Qz.assign ?_;apply AWl.nil;apply AThen.normal;apply AWp.ret;apply AThen.ret
  exact Fin.ret (Rets.of2 (ResV.tmp rfl rfl) (ResV.tmp rfl rfl) (D.le.tup2 (D.le_nilP) (D.le.refl _)))
theorem rsz_exp {z : Int} (h0:0≤z) (h1:z≤65535):RSz (z:Rat) 1:=by
 refine ⟨?_,?_⟩
 ·show (digs (z:Int).natAbs).length≤1
  exact len_of_lt (by simp only [BB,Nat.pow_one];omega)
 ·show (digs 1).length≤1
  exact len_of_lt (by simp only [BB,Nat.pow_one];omega)
theorem dT_pos {i : Nat} {t:Tm} (h:0<t.m i):dT i t = some ⟨(t.m i:Rat)*t.c,setM t.m i (t.m i - 1)⟩:=if_pos h
theorem dT_neg {i : Nat} {t:Tm} (h:¬ 0<t.m i):dT i t = none:=if_neg h
theorem PPart_abs (P : List Tm) (i N:Nat) (hi:i<8) (hP:PSz P N) (hPi:PIn P 0 65535) (hn:P.length≤100000) (hN:N+1≤4398046511103):Abs Tryz.prog 24 [polD P,ex (.int .i64 (i:Nat))] (tupD [polD (prt i P),ex (.int .i64 0)]):=by
 refine Abs.intro Tryz.func24 rfl (callFunc_run Tryz.func24 (by kernel_rfl) (by kernel_rfl)) rfl fun s0=>?_
 rw [Tryz.ntmps24]
 apply AWp.seq;apply AWp.region;refine Wq Qz.assign ?_;refine Wq Qz.assign ?_;apply AWl.nil;apply AThen.normal;apply AWp.seq;apply AWp.seq;apply AWp.region;refine Wq Qz.move ?_;refine Wq Qz.cmpF ?_;refine Wq Qz.move ?_;refine Wg Qz.move ?_;refine Wg Qz.cmpF ?_;refine Wq Qz.pickF ?_;apply AWl.nil;apply AThen.normal;refine AWp.condF (ao rfl) ?_;apply AWp.skip;apply AThen.normal;apply AWp.seq;apply AWp.region;refine Wq Qz.assign ?_;apply AWl.nil;apply AThen.normal;apply AWp.seq;apply AWp.seq;apply AWp.region;refine Wq Qz.move ?_;refine Wq Qz.lenN ?_;refine Wq Qz.move ?_;apply AWl.nil;apply AThen.normal;apply AWp.block
 refine AWp.nilOwn 6 33 12 rfl (by decide) (by decide) rfl rfl ?_
 refine AWp.loop (fun mz σ=>∃ k,k≤P.length∧mz = P.length - k∧σ = ⟨[(1,.d (ex (.int .i64 (i:Nat)))),(6,.own 0),(16,.d (polD P)),(17,.d (ex (.int .i64 (P.length:Nat)))),(18,.d (ex (.int .i64 (k:Nat))))],[.row 33 12 ((prt i (P.take k)).map tmC)]⟩) ?le ⟨0,by omega,rfl,rfl⟩ ?round
 case le=>exact AS.le_of (by refine FrLe.cons rfl (AVle.d rfl) ?_;refine FrLe.cons rfl (AVle.own rfl) ?_;refine FrLe.cons rfl (AVle.d rfl) ?_;refine FrLe.cons rfl (AVle.d rfl) ?_;refine FrLe.cons rfl (AVle.d rfl) ?_;exact FrLe.nil) (by refine HpLe.cons (OwLe.row rfl) ?_;exact HpLe.nil)
 case round =>
  rintro mz _ ⟨k,hk,rfl,rfl⟩
  by_cases hlt:k<P.length
  ·have ht:=tAt_mem hlt
   have hm:=hPi _ ht i hi
   have hst:=prt_take (i:=i) hlt
   have hlen:(prt i (P.take k)).length≤k:=Nat.le_trans (prt_length _ _) (by rw [List.length_take];omega)
   have hm':0≤(P.getD k default).m i∧(P.getD k default).m i≤65535:=hm
   by_cases hp:0<(tAt P k).m i
   ·have hp':0<(P.getD k default).m i:=hp
    rw [dT_pos hp] at hst
    have cw:=RSz.mono (rsz_exp hm.1 hm.2) (Nat.le_refl 1)
    apply AWp.seq;apply AWp.region;refine Wq Qz.cmpT ?_;apply AWl.nil;apply AThen.normal;apply AWp.seq;refine AWp.condT (ao rfl) ?_;apply AWp.skip;apply AThen.normal;apply AWp.seq;apply AWp.block;apply AWp.seq;apply AWp.region;refine Wq Qz.indexN ?_;refine Wq Qz.loadEf ?_;refine AWs.al (tab_of rfl) rfl rfl rfl rfl rfl rfl ?_;refine AWs.stF (ao rfl) (ao rfl) rfl (tab_of rfl) rfl rfl rfl ?_;apply AWl.nil;apply AThen.normal;apply AWp.seq;apply AWp.region;refine Wq Qz.move ?_;refine Wq Qz.fldP ?_;refine Wq Qz.ixP ?_;refine Wq Qz.ldX1 ?_;refine Wq Qz.assign ?_;apply AWl.nil;apply AThen.normal;apply AWp.seq;apply AWp.region;refine Wq Qz.move ?_;refine Wq Qz.cmpT ?_;apply AWl.nil;apply AThen.normal;refine AWp.condT (ao rfl) ?_;apply AWp.seq
    refine AWp.dr' (DrawOk.self (by kernel_rfl)) [[],[(28,0)],[],[(30,2)],[(29,1),(31,3)],[]] [[],[0],[],[2],[0,1,2,3],[0,1,2,3,4]] rfl (by kernel_rfl) (by kernel_rfl) (by kernel_rfl) ?_
    refine Xq Qz.move ?_;refine Xq (Qz.call (Whole_abs ((tAt P k).m i) (by omega) (by omega))) ?_;refine Xq Qz.fldP ?_;refine Xq Qz.ldD ?_;refine Xq (Qz.call (Mul_abs (((tAt P k).m i:Int):Rat) (tAt P k).c 1 N cw (hP _ ht) (by omega))) ?_;refine Xq Qz.fldP ?_;refine ⟨_,rfl,?_⟩
    refine AWs.stD (ao rfl) (ao rfl) rfl (tab_of rfl) rfl rfl rfl ?_;apply AWl.nil;apply AThen.normal;apply AWp.seq;apply AWp.region;refine Wq Qz.move ?_;refine Wq Qz.fldP ?_;refine Wq Qz.ixP ?_;refine Wq Qz.ldX1 ?_;refine Wq Qz.sub ?_;refine Wq Qz.fldP ?_;refine Wq Qz.ixP ?_;(refine AWs.stX1 (ao rfl) (ao rfl) rfl (tab_of rfl) (by first | exact One.ex_ rfl | exact One.sl | exact One.ep) (SetAt.tm (by first | omega | (simp;omega))) rfl ?_);apply AWl.nil;apply AThen.normal;apply AWp.region;refine Wq Qz.move ?_;refine Wq Qz.ldD ?_;(refine AWs.q rfl rfl ?_;refine ⟨_,Bq.slice1 (ao rfl) (tab_of rfl) (tab_of rfl) rfl rfl rfl rfl rfl,?_⟩);(refine AWs.app (ao rfl) rfl rfl (tab_of rfl) (tab_of rfl) rfl rfl (by simp;omega) (by simp;omega) rfl (by first | ((repeat (first | exact PlainHp.nil | refine PlainHp.var ?_ | refine PlainHp.row ?_ | refine PlainHp.dead ?_));done) | fail) rfl ?_);refine Wq Qz.assign ?_;apply AWl.nil;apply ABlock.normal;apply AThen.normal;apply AWp.region;refine Wq Qz.succ ?_;refine Wq Qz.move ?_;apply AWl.nil
    refine ALoop.next (P.length - (k+1)) (by omega) ⟨k+1,by omega,rfl,rfl⟩ ?_
    exact AS.le_of (by refine FrLe.cons rfl (AVle.d rfl) ?_;refine FrLe.cons rfl (AVle.own rfl) ?_;refine FrLe.cons rfl (AVle.d rfl) ?_;refine FrLe.cons rfl (AVle.d rfl) ?_;refine FrLe.cons rfl (AVle.d rfl) ?_;exact FrLe.nil) (by (refine HpLe.cons (OwLe.row ((map_snoc tmC _ ⟨((tAt P k).m i:Rat)*(tAt P k).c,setM (tAt P k).m i ((tAt P k).m i - 1)⟩).trans (by rw [hst];rfl))) ?_);exact HpLe.nil)
   ·have hp':¬ 0<(P.getD k default).m i:=hp
    rw [dT_neg hp] at hst
    apply AWp.seq;apply AWp.region;refine Wq Qz.cmpT ?_;apply AWl.nil;apply AThen.normal;apply AWp.seq;refine AWp.condT (ao rfl) ?_;apply AWp.skip;apply AThen.normal;apply AWp.seq;apply AWp.block;apply AWp.seq;apply AWp.region;refine Wq Qz.indexN ?_;refine Wq Qz.loadEf ?_;refine AWs.al (tab_of rfl) rfl rfl rfl rfl rfl rfl ?_;refine AWs.stF (ao rfl) (ao rfl) rfl (tab_of rfl) rfl rfl rfl ?_;apply AWl.nil;apply AThen.normal;apply AWp.seq;apply AWp.region;refine Wq Qz.move ?_;refine Wq Qz.fldP ?_;refine Wq Qz.ixP ?_;refine Wq Qz.ldX1 ?_;refine Wq Qz.assign ?_;apply AWl.nil;apply AThen.normal;apply AWp.seq;apply AWp.region;refine Wq Qz.move ?_;refine Wq Qz.cmpF ?_;apply AWl.nil;apply AThen.normal;refine AWp.condF (ao rfl) ?_;apply AWp.skip;apply ABlock.normal;apply AThen.normal;apply AWp.region;refine Wq Qz.succ ?_;refine Wq Qz.move ?_;apply AWl.nil
    refine ALoop.next (P.length - (k+1)) (by omega) ⟨k+1,by omega,rfl,rfl⟩ ?_
    exact AS.le_of (by refine FrLe.cons rfl (AVle.d rfl) ?_;refine FrLe.cons rfl (AVle.own rfl) ?_;refine FrLe.cons rfl (AVle.d rfl) ?_;refine FrLe.cons rfl (AVle.d rfl) ?_;refine FrLe.cons rfl (AVle.d rfl) ?_;exact FrLe.nil) (by (refine HpLe.cons (OwLe.row (by rw [hst];simp)) ?_);exact HpLe.nil)
  ·obtain rfl : k = P.length := by omega
   apply AWp.seq;apply AWp.region;refine Wq Qz.cmpF ?_;apply AWl.nil;apply AThen.normal;apply AWp.seq;refine AWp.condF (ao rfl) ?_;apply AWp.exit;apply AThen.exit;apply ALoop.exit;apply ABlock.hit;apply AThen.normal;apply AWp.seq;apply AWp.region;refine Wq Qz.move ?_;refine Wq Qz.assign ?_;refine Wq Qz.assign ?_;apply AWl.nil;apply AThen.normal;apply AWp.ret
   exact Fin.ret (Rets.of2 (ResV.tmp rfl rfl) (ResV.tmp rfl rfl) (D.le.tup2 (D.le.of_eq (by rw [List.take_length];rfl)) (D.le.refl _)))
end Go.Proofs.YteicdddphdomkaaGreat
namespace Go.Proofs.YteicdddphdomkaaGreat
open Go.RowKit
theorem setM_lx {a b:Nat→Int} {i:Nat} (hi:i<8):lx (setM a i (a i - 1)) (setM b i (b i - 1)) = lx a b:=by
 have e:∀ a:Nat→Int,a = add8 (setM a i (a i - 1)) (unitE i):=fun a=>by
  funext j
  simp only [add8,setM,unitE]
  split
  ·rename_i h;subst h;omega
  ·omega
 conv=>rhs;rw [e a,e b]
 rw [lx_add]
theorem prt_pb {P : List Tm} {n N:Nat} {d:Int} (i:Nat) (hi:i<8) (h:PB P n N d) (hd:d≤65535):PB (prt i P) n (N+1) d:=by
 have mem:∀ u∈prt i P,∃ t∈P,0<t.m i∧u = ⟨(t.m i:Rat)*t.c,setM t.m i (t.m i - 1)⟩:=fun u hu=>by
  obtain ⟨t,ht,he⟩:=List.mem_filterMap.1 hu
  by_cases hp:0<t.m i
  ·rw [dT_pos hp] at he
   exact ⟨t,ht,hp,(Option.some.inj he).symm⟩
  ·rw [dT_neg hp] at he;cases he
 refine ⟨⟨?_,fun u hu=>?_⟩,Nat.le_trans (prt_length i P) h.len,fun u hu=>?_,fun u hu=>?_⟩
 ·refine List.Pairwise.filterMap (dT i) (fun s t hst u hu v hv=>?_) h.can.1
  by_cases hp:0<s.m i
  ·by_cases hq:0<t.m i
   ·rw [dT_pos hp] at hu
    rw [dT_pos hq] at hv
    cases hu;cases hv
    show 0<lx _ _
    rw [setM_lx hi]
    exact hst
   ·rw [dT_neg hq] at hv;cases hv
  ·rw [dT_neg hp] at hu;cases hu
 ·obtain ⟨t,ht,hp,rfl⟩:=mem u hu
  refine rat_mul_ne (fun e=>?_) (h.can.2 t ht)
  have:((t.m i:Int):Rat) = ((0:Int):Rat):=e
  have:=Rat.intCast_inj.1 this
  omega
 ·obtain ⟨t,ht,hp,rfl⟩:=mem u hu
  have hm:=h.ex t ht i hi
  have:=(rsz_exp (z:=t.m i) (by omega) (by omega)).mul (h.sz t ht)
  exact this.mono (by omega)
 ·obtain ⟨t,ht,hp,rfl⟩:=mem u hu
  intro j hj
  have hm:=h.ex t ht j hj
  show 0≤setM t.m i (t.m i - 1) j∧setM t.m i (t.m i - 1) j≤d
  unfold setM
  split
  ·rename_i e;subst e;omega
  ·exact hm
end Go.Proofs.YteicdddphdomkaaGreat
namespace Go.Proofs.YteicdddphdomkaaGreat
open Go.RowKit
set_option maxRecDepth 100000
def prtTo (i : Nat) (A P:List Tm):List Tm:=P.foldl (fun a t=>mrg a (dT i t).toList) A
theorem prtTo_take {i : Nat} {P:List Tm} {k:Nat} (h:k<P.length):prtTo i [] (P.take (k+1)) = mrg (prtTo i [] (P.take k)) (dT i (tAt P k)).toList:=foldl_tAt (fun a t=>mrg a (dT i t).toList) [] h
theorem dT_pb {i : Nat} (hi:i<8) {t:Tm} {N:Nat} {d:Int} (hc:t.c ≠ 0) (hs:RSz t.c N) (hm:In8 t.m 0 d) (hd:d≤65535):PB (dT i t).toList 1 (N+1) d:=by
 have h:=prt_pb i hi (PB.single hc hs hm) hd
 have e:prt i [t] = (dT i t).toList:=by
  rw [prt,List.filterMap_cons]
  cases dT i t <;> rfl
 rwa [e] at h
theorem prtTo_pb {i : Nat} (hi:i<8) {N:Nat} {d:Int} (hd:d≤65535):∀ {P A:List Tm} {n K:Nat},(∀ t∈P,t.c ≠ 0)→PSz P N→PIn P 0 d→PB A n K d→PB (prtTo i A P) (n+P.length) (K+P.length*(N+2)) d
 | [],A,n,K,_,_,_,h=>by simpa [prtTo] using h
 | t :: P,A,n,K,h1,h2,h3,h=>by
  have ht:=dT_pb (i:=i) hi (h1 t (by simp)) (h2 t (by simp)) (h3 t (by simp)) hd
  have h4:PB (mrg A (dT i t).toList) (n+1) (K+(N+2)) d:=(h.add ht).mono (Nat.le_refl _) (by omega) (by omega)
  have:=prtTo_pb hi hd (P:=P) (fun u hu=>h1 u (by simp [hu])) (fun u hu=>h2 u (by simp [hu])) (fun u hu=>h3 u (by simp [hu])) h4
  refine this.mono ?_ ?_ (Int.le_refl _)
  ·rw [List.length_cons];omega
  ·rw [List.length_cons,Nat.succ_mul];omega
theorem prtTo_sim (i : Nat):∀ (P A:List Tm),Sim (prtTo i A P) (A ++ prt i P)
 | [],A=>by
  rw [show prt i [] = [] from rfl,List.append_nil]
  exact Sim.refl _
 | t :: P,A=>by
  refine (prtTo_sim i P (mrg A (dT i t).toList)).trans (((mrg_sim _ _).append (Sim.refl _)).trans ?_)
  have e:prt i (t :: P) = (dT i t).toList ++ prt i P:=by
   rw [prt,List.filterMap_cons]
   cases dT i t <;> rfl
  rw [e,List.append_assoc]
  exact Sim.refl _
theorem RPart_pb {P : List Tm} {n N:Nat} {d:Int} (i:Nat) (hi:i<8) (hP:PB P n N d) (hd:d≤65535) (hn:n≤10000) (hN:N≤100000):Abs Tryz.prog 55 [polD P,ex (.int .i64 (i:Nat))] (tupD [polD (prt i P),ex (.int .i64 0)]):=by
 have hPl:=hP.len
 have hfull:=prtTo_pb (i:=i) hi hd (A:=[]) (n:=0) (K:=0) hP.can.2 hP.sz hP.ex PB.nil
 have hend:polD (prtTo i [] P) = polD (prt i P):=polD_sim hfull.can (prt_pb i hi hP hd).can (prtTo_sim i P [])
 refine Abs.intro Tryz.func55 rfl (callFunc_run Tryz.func55 (by kernel_rfl) (by kernel_rfl)) rfl fun s0=>?_
 rw [Tryz.ntmps55]
 apply AWp.seq;apply AWp.region;refine Wq Qz.assign ?_;refine Wq Qz.assign ?_;apply AWl.nil;apply AThen.normal;apply AWp.seq;apply AWp.seq;apply AWp.region;refine Wq Qz.move ?_;refine Wq Qz.cmpF ?_;refine Wq Qz.move ?_;refine Wg Qz.move ?_;refine Wg Qz.cmpF ?_;refine Wq Qz.pickF ?_;apply AWl.nil;apply AThen.normal;refine AWp.condF (ao rfl) ?_;apply AWp.skip;apply AThen.normal;apply AWp.seq;apply AWp.region;refine AWs.b0 (tab_of rfl) (tab_of rfl) rfl rfl rfl rfl rfl ?_;refine Wq Qz.assign ?_;apply AWl.nil;apply AThen.normal;apply AWp.seq;apply AWp.seq;apply AWp.region;refine Wq Qz.assign ?_;apply AWl.nil;apply AThen.normal;apply AWp.block
 refine AWp.loop (fun mz σ=>∃ k,k≤P.length∧mz = P.length - k∧σ = ⟨[(0,.d (polD P)),(1,.d (ex (.int .i64 (i:Nat)))),(6,.d (polD (prtTo i [] (P.take k)))),(7,.d (ex (.int .i64 (k:Nat))))],[]⟩) ?le ⟨0,by omega,rfl,rfl⟩ ?round
 case le=>exact AS.le_of (by refine FrLe.cons rfl (AVle.d rfl) ?_;refine FrLe.cons rfl (AVle.d rfl) ?_;refine FrLe.cons rfl (AVle.ownD rfl (D.le.refl _)) ?_;refine FrLe.cons rfl (AVle.d rfl) ?_;exact FrLe.nil) (by exact HpLe.nil)
 case round =>
  rintro mz _ ⟨k,hk,rfl,rfl⟩
  by_cases hlt:k<P.length
  ·have ht:=tAt_mem hlt
   have hm:=hP.ex _ ht i hi
   have hm':0≤(P.getD k default).m i∧(P.getD k default).m i≤d:=hm
   have hst:=prtTo_take (i:=i) hlt
   have hb:=prtTo_pb (i:=i) hi hd (P:=P.take k) (A:=[]) (n:=0) (K:=0) (fun t h=>hP.can.2 t (List.mem_of_mem_take h)) (fun t h=>hP.sz t (List.mem_of_mem_take h)) (fun t h=>hP.ex t (List.mem_of_mem_take h)) PB.nil
   have hkl:(P.take k).length≤10000:=by rw [List.length_take];omega
   have hk2:(P.take k).length*(N+2)≤10000*100002:=Nat.mul_le_mul hkl (by omega)
   have hbl:=hb.len
   have hone:=dT_pb (i:=i) hi (hP.can.2 _ ht) (hP.sz _ ht) (hP.ex _ ht) hd
   by_cases hp:0<(tAt P k).m i
   ·have hp':0<(P.getD k default).m i:=hp
    rw [dT_pos hp] at hst hone
    have cw:=rsz_exp hm.1 (show (tAt P k).m i≤65535 by omega)
    apply AWp.seq;apply AWp.seq;apply AWp.region;refine Wq Qz.move ?_;refine Wq Qz.move ?_;refine Wq Qz.lenN ?_;refine Wq Qz.cmpT ?_;apply AWl.nil;apply AThen.normal;refine AWp.condT (ao rfl) ?_;apply AWp.skip;apply AThen.normal;apply AWp.seq;apply AWp.block;apply AWp.seq;apply AWp.region;refine Wq Qz.move ?_;refine Wq Qz.move ?_;refine Wq Qz.indexN ?_;refine Wq Qz.fldE ?_;refine Wq Qz.loadEf ?_;refine AWs.al (tab_of rfl) rfl rfl rfl rfl rfl rfl ?_;refine AWs.stF (ao rfl) (ao rfl) rfl (tab_of rfl) rfl rfl rfl ?_;apply AWl.nil;apply AThen.normal;apply AWp.seq;apply AWp.region;refine Wq Qz.move ?_;refine Wq Qz.ixP ?_;refine Wq Qz.ldX1 ?_;refine Wq Qz.cmpT ?_;apply AWl.nil;apply AThen.normal;refine AWp.condT (ao rfl) ?_;apply AWp.seq
    refine AWp.dr' (DrawOk.self (by kernel_rfl)) [[],[],[(32,0),(33,1)],[(34,2)],[(35,3)],[],[(37,5)],[(38,6)],[(39,7)],[(36,4),(40,8)],[]] [[],[],[0,1],[0,1,2],[0,1,2,3],[],[5],[5,6],[5,6,7],[0,1,2,3,4,5,6,7,8],[]] rfl (by kernel_rfl) (by kernel_rfl) (by kernel_rfl) ?_
    refine Xq Qz.move ?_;refine Xq Qz.move ?_;refine Xq Qz.indexN ?_;refine Xq Qz.fldE ?_;refine Xq Qz.ldE ?_;refine Xq Qz.move ?_;refine Xq Qz.ixP ?_;refine Xq Qz.ldX1 ?_;refine Xq (Qz.call (RWhole_abs ((tAt P k).m i) (by omega) (by omega))) ?_;refine Xq (Qz.call (RMul_abs (tAt P k).c (((tAt P k).m i:Int):Rat) N 1 (hP.sz _ ht) cw (by omega))) ?_;refine Xn ?_;refine ⟨_,rfl,?_⟩
    refine AWs.stF (ao rfl) (ao rfl) rfl (tab_of rfl) rfl rfl rfl ?_;apply AWl.nil;apply AThen.normal;apply AWp.seq;apply AWp.region;refine Wq Qz.move ?_;refine Wq Qz.ixP ?_;refine Wq Qz.ldX1 ?_;refine Wq Qz.sub ?_;refine Wq Qz.ixP ?_;(refine AWs.stX1 (ao rfl) (ao rfl) rfl (tab_of rfl) (by first | exact One.ex_ rfl | exact One.sl | exact One.ep) (SetAt.mon (by first | omega | (simp;omega))) rfl ?_);apply AWl.nil;apply AThen.normal;apply AWp.region;refine Wq Qz.move ?_;refine Wq Qz.ldD ?_;refine Wq Qz.ldD ?_;(refine AWs.q rfl rfl ?_;(refine Bq.build (tab_of rfl) rfl rfl rfl ?_;(repeat ((first | refine ⟨_,PartOk.ag (ao rfl),?_⟩ | refine ⟨_,PartOk.one rfl (by first | exact One.ex_ rfl | exact One.sl | exact One.ep),?_⟩);refine ⟨_,rfl,?_⟩));refine ⟨_,rfl,?_⟩));(refine AWs.q rfl rfl ?_;refine ⟨_,Bq.slice1 (ao rfl) (tab_of rfl) (tab_of rfl) rfl rfl rfl rfl rfl,?_⟩);refine Wq (Qz.call (RAdd_pol (prtTo i [] (P.take k)) [⟨(tAt P k).c*((tAt P k).m i:Int),setM (tAt P k).m i ((tAt P k).m i - 1)⟩] (0+(P.take k).length*(N+2)) (N+1) hb.sz (fun u hu=>by rw [List.mem_singleton.1 hu];exact (hP.sz _ ht).mul cw) (by omega) (by simp;omega))) ?_;refine Wq Qz.assign ?_;apply AWl.nil;apply ABlock.normal;apply AThen.normal;apply AWp.region;refine Wq Qz.move ?_;refine Wq Qz.succ ?_;refine Wq Qz.assign ?_;apply AWl.nil
    refine ALoop.next (P.length - (k+1)) (by omega) ⟨k+1,by omega,rfl,rfl⟩ ?_
    exact AS.le_of (by refine FrLe.cons rfl (AVle.d rfl) ?_;refine FrLe.cons rfl (AVle.d rfl) ?_;(refine FrLe.cons rfl (AVle.le (D.le_pol (by rw [hst,Rat.mul_comm];rfl))) ?_);refine FrLe.cons rfl (AVle.d rfl) ?_;exact FrLe.nil) (by exact HpLe.nil)
   ·have hp':¬ 0<(P.getD k default).m i:=hp
    rw [dT_neg hp] at hst
    apply AWp.seq;apply AWp.seq;apply AWp.region;refine Wq Qz.move ?_;refine Wq Qz.move ?_;refine Wq Qz.lenN ?_;refine Wq Qz.cmpT ?_;apply AWl.nil;apply AThen.normal;refine AWp.condT (ao rfl) ?_;apply AWp.skip;apply AThen.normal;apply AWp.seq;apply AWp.block;apply AWp.seq;apply AWp.region;refine Wq Qz.move ?_;refine Wq Qz.move ?_;refine Wq Qz.indexN ?_;refine Wq Qz.fldE ?_;refine Wq Qz.loadEf ?_;refine AWs.al (tab_of rfl) rfl rfl rfl rfl rfl rfl ?_;refine AWs.stF (ao rfl) (ao rfl) rfl (tab_of rfl) rfl rfl rfl ?_;apply AWl.nil;apply AThen.normal;apply AWp.seq;apply AWp.region;refine Wq Qz.move ?_;refine Wq Qz.ixP ?_;refine Wq Qz.ldX1 ?_;refine Wq Qz.cmpF ?_;apply AWl.nil;apply AThen.normal;refine AWp.condF (ao rfl) ?_;apply AWp.skip;apply ABlock.normal;apply AThen.normal;apply AWp.region;refine Wq Qz.move ?_;refine Wq Qz.succ ?_;refine Wq Qz.assign ?_;apply AWl.nil
    refine ALoop.next (P.length - (k+1)) (by omega) ⟨k+1,by omega,rfl,rfl⟩ ?_
    exact AS.le_of (by refine FrLe.cons rfl (AVle.d rfl) ?_;refine FrLe.cons rfl (AVle.d rfl) ?_;(refine FrLe.cons rfl (AVle.le (D.le_pol (by rw [hst];exact (mrg_nil _).symm))) ?_);refine FrLe.cons rfl (AVle.d rfl) ?_;exact FrLe.nil) (by exact HpLe.nil)
  ·obtain rfl : k = P.length := by omega
   apply AWp.seq;apply AWp.seq;apply AWp.region;refine Wq Qz.move ?_;refine Wq Qz.move ?_;refine Wq Qz.lenN ?_;refine Wq Qz.cmpF ?_;apply AWl.nil;apply AThen.normal;refine AWp.condF (ao rfl) ?_;apply AWp.exit;apply AThen.exit;apply ALoop.exit;apply ABlock.hit;apply AThen.normal;apply AWp.seq;apply AWp.region;refine Wq Qz.move ?_;refine Wq Qz.assign ?_;refine Wq Qz.assign ?_;apply AWl.nil;apply AThen.normal;apply AWp.ret
   exact Fin.ret (Rets.of2 (ResV.tmp rfl rfl) (ResV.tmp rfl rfl) (D.le.tup2 (D.le.of_eq (by rw [List.take_length];exact hend)) (D.le.refl _)))
end Go.Proofs.YteicdddphdomkaaGreat
namespace Go.Proofs.YteicdddphdomkaaGreat
open Go.RowKit
set_option maxRecDepth 100000
def i4C (l : Nat→Int):List D:=[ex (.int .i8 (l 0)),ex (.int .i8 (l 1)),ex (.int .i8 (l 2)),ex (.int .i8 (l 3))]
end Go.Proofs.YteicdddphdomkaaGreat
namespace Go.Proofs.YteicdddphdomkaaGreat
open Go.RowKit
set_option maxRecDepth 100000
def ordR (n : Nat):List (Nat→Int):=if n % 5 = 1 then [onesOf 255] else if n % 5 = 2 then revRows else if n % 5 = 3 then onesOf 1 :: revRows else if n % 5 = 4 then onesOf 2 :: revRows else []
theorem ones_in8 (m : Nat):In8 (onesOf m) (-1000) 1000:=fun i _=>by
 unfold onesOf
 omega
theorem revTail_in : ∀ k,∀ r∈revTail k,In8 r (-1000) 1000
 | 0,r,h=>by cases h
 | k+1,r,h=>by
  rcases List.mem_cons.1 h with rfl | h
  ·intro i _
   unfold minusOne
   split <;> omega
  ·exact revTail_in k r h
theorem revRows_in : ∀ r∈revRows,In8 r (-1000) 1000:=fun r h=>by
 rcases List.mem_cons.1 h with rfl | h
 ·exact ones_in8 255
 ·exact revTail_in 7 r h
theorem ordR_in (n : Nat):∀ r∈ordR n,In8 r (-1000) 1000:=fun r h=>by
 unfold ordR at h
 split at h
 ·rw [List.mem_singleton.1 h];exact ones_in8 255
 ·split at h
  ·exact revRows_in r h
  ·split at h
   ·rcases List.mem_cons.1 h with rfl | h
    ·exact ones_in8 1
    ·exact revRows_in r h
   ·split at h
    ·rcases List.mem_cons.1 h with rfl | h
     ·exact ones_in8 2
     ·exact revRows_in r h
    ·cases h
theorem ROrder_abs (n : Nat) (hn:n<256):Abs Tryz.prog 33 [ex (.int .u8 (n:Nat))] (ordD (ordR n)):=by
 rcases (show ((n:Int) % 5 = 1∧n % 5 = 1)∨((n:Int) % 5 = 2∧n % 5 = 2)∨((n:Int) % 5 = 3∧n % 5 = 3)∨((n:Int) % 5 = 4∧n % 5 = 4)∨((n:Int) % 5 = 0∧n % 5 = 0) by omega) with ⟨h,hk⟩ | ⟨h,hk⟩ | ⟨h,hk⟩ | ⟨h,hk⟩ | ⟨h,hk⟩
 ·refine Abs.intro Tryz.func33 rfl (callFunc_run Tryz.func33 (by kernel_rfl) (by kernel_rfl)) rfl fun s0 => ?_
  rw [Tryz.ntmps33]
  apply AWp.seq;apply AWp.region;refine Wq Qz.assign ?_;apply AWl.nil;apply AThen.normal;apply AWp.seq;apply AWp.seq;apply AWp.region;refine Wq Qz.move ?_;refine Wq Qz.rem ?_;apply AWl.nil;apply AThen.normal;apply AWp.block;apply AWp.seq;apply AWp.region;refine Wq Qz.cmpT ?_;refine Wq Qz.assign ?_;apply AWl.nil;apply AThen.normal;refine AWp.condT (ao rfl) ?_;apply AWp.seq;apply AWp.region;refine Wq (Qz.call (RGraded_abs)) ?_;refine Wq Qz.assign ?_;apply AWl.nil;apply AThen.normal;apply AWp.ret;apply ABlock.ret;apply AThen.ret
  exact Fin.ret (Rets.of1 (ResV.tmp rfl rfl) (D.le.of_eq (by unfold ordR;rw [hk];rfl)))
 ·refine Abs.intro Tryz.func33 rfl (callFunc_run Tryz.func33 (by kernel_rfl) (by kernel_rfl)) rfl fun s0 => ?_
  rw [Tryz.ntmps33]
  apply AWp.seq;apply AWp.region;refine Wq Qz.assign ?_;apply AWl.nil;apply AThen.normal;apply AWp.seq;apply AWp.seq;apply AWp.region;refine Wq Qz.move ?_;refine Wq Qz.rem ?_;apply AWl.nil;apply AThen.normal;apply AWp.block;apply AWp.seq;apply AWp.region;refine Wq Qz.cmpF ?_;refine Wq Qz.assign ?_;apply AWl.nil;apply AThen.normal;refine AWp.condF (ao rfl) ?_;apply AWp.seq;apply AWp.region;refine Wq Qz.cmpT ?_;refine Wq Qz.assign ?_;apply AWl.nil;apply AThen.normal;refine AWp.condT (ao rfl) ?_;apply AWp.seq;apply AWp.region;refine Wq (Qz.call (RReverse_abs)) ?_;refine Wq Qz.assign ?_;apply AWl.nil;apply AThen.normal;apply AWp.ret;apply ABlock.ret;apply AThen.ret
  exact Fin.ret (Rets.of1 (ResV.tmp rfl rfl) (D.le.of_eq (by unfold ordR;rw [hk];rfl)))
 ·refine Abs.intro Tryz.func33 rfl (callFunc_run Tryz.func33 (by kernel_rfl) (by kernel_rfl)) rfl fun s0 => ?_
  rw [Tryz.ntmps33]
  apply AWp.seq;apply AWp.region;refine Wq Qz.assign ?_;apply AWl.nil;apply AThen.normal;apply AWp.seq;apply AWp.seq;apply AWp.region;refine Wq Qz.move ?_;refine Wq Qz.rem ?_;apply AWl.nil;apply AThen.normal;apply AWp.block;apply AWp.seq;apply AWp.region;refine Wq Qz.cmpF ?_;refine Wq Qz.assign ?_;apply AWl.nil;apply AThen.normal;refine AWp.condF (ao rfl) ?_;apply AWp.seq;apply AWp.region;refine Wq Qz.cmpF ?_;refine Wq Qz.assign ?_;apply AWl.nil;apply AThen.normal;refine AWp.condF (ao rfl) ?_;apply AWp.seq;apply AWp.region;refine Wq Qz.cmpT ?_;refine Wq Qz.assign ?_;apply AWl.nil;apply AThen.normal;refine AWp.condT (ao rfl) ?_;apply AWp.seq;apply AWp.region;refine Wq (Qz.call (REliminating_abs 1 (by omega))) ?_;refine Wq Qz.assign ?_;apply AWl.nil;apply AThen.normal;apply AWp.ret;apply ABlock.ret;apply AThen.ret
  exact Fin.ret (Rets.of1 (ResV.tmp rfl rfl) (D.le.of_eq (by unfold ordR;rw [hk];rfl)))
 ·refine Abs.intro Tryz.func33 rfl (callFunc_run Tryz.func33 (by kernel_rfl) (by kernel_rfl)) rfl fun s0 => ?_
  rw [Tryz.ntmps33]
  apply AWp.seq;apply AWp.region;refine Wq Qz.assign ?_;apply AWl.nil;apply AThen.normal;apply AWp.seq;apply AWp.seq;apply AWp.region;refine Wq Qz.move ?_;refine Wq Qz.rem ?_;apply AWl.nil;apply AThen.normal;apply AWp.block;apply AWp.seq;apply AWp.region;refine Wq Qz.cmpF ?_;refine Wq Qz.assign ?_;apply AWl.nil;apply AThen.normal;refine AWp.condF (ao rfl) ?_;apply AWp.seq;apply AWp.region;refine Wq Qz.cmpF ?_;refine Wq Qz.assign ?_;apply AWl.nil;apply AThen.normal;refine AWp.condF (ao rfl) ?_;apply AWp.seq;apply AWp.region;refine Wq Qz.cmpF ?_;refine Wq Qz.assign ?_;apply AWl.nil;apply AThen.normal;refine AWp.condF (ao rfl) ?_;apply AWp.seq;apply AWp.region;refine Wq Qz.cmpT ?_;refine Wq Qz.assign ?_;apply AWl.nil;apply AThen.normal;refine AWp.condT (ao rfl) ?_;apply AWp.seq;apply AWp.region;refine Wq (Qz.call (REliminating_abs 2 (by omega))) ?_;refine Wq Qz.assign ?_;apply AWl.nil;apply AThen.normal;apply AWp.ret;apply ABlock.ret;apply AThen.ret
  exact Fin.ret (Rets.of1 (ResV.tmp rfl rfl) (D.le.of_eq (by unfold ordR;rw [hk];rfl)))
 ·refine Abs.intro Tryz.func33 rfl (callFunc_run Tryz.func33 (by kernel_rfl) (by kernel_rfl)) rfl fun s0 => ?_
  rw [Tryz.ntmps33]
  apply AWp.seq;apply AWp.region;refine Wq Qz.assign ?_;apply AWl.nil;apply AThen.normal;apply AWp.seq;apply AWp.seq;apply AWp.region;refine Wq Qz.move ?_;refine Wq Qz.rem ?_;apply AWl.nil;apply AThen.normal;apply AWp.block;apply AWp.seq;apply AWp.region;refine Wq Qz.cmpF ?_;refine Wq Qz.assign ?_;apply AWl.nil;apply AThen.normal;refine AWp.condF (ao rfl) ?_;apply AWp.seq;apply AWp.region;refine Wq Qz.cmpF ?_;refine Wq Qz.assign ?_;apply AWl.nil;apply AThen.normal;refine AWp.condF (ao rfl) ?_;apply AWp.seq;apply AWp.region;refine Wq Qz.cmpF ?_;refine Wq Qz.assign ?_;apply AWl.nil;apply AThen.normal;refine AWp.condF (ao rfl) ?_;apply AWp.seq;apply AWp.region;refine Wq Qz.cmpF ?_;refine Wq Qz.assign ?_;apply AWl.nil;apply AThen.normal;refine AWp.condF (ao rfl) ?_;apply AWp.skip;apply ABlock.normal;apply AThen.normal;apply AWp.seq;apply AWp.region;refine Wq (Qz.call (RLex_abs)) ?_;refine Wq Qz.assign ?_;apply AWl.nil;apply AThen.normal;apply AWp.ret
  exact Fin.ret (Rets.of1 (ResV.tmp rfl rfl) (D.le.of_eq (by unfold ordR;rw [hk];rfl)))
theorem PLead_pb {s : Tm} {P:List Tm} {n N:Nat} {d:Int} (R:List (Nat→Int)) (hR:∀ r∈R,In8 r (-1000) 1000) (h:PB (s :: P) n N d) (hd:d≤65535) (hn:n≤90000):Abs Tryz.prog 35 [polD (s :: P),ordD R] (tupD [agD (tmC (leadF R s P)),ex (.bool true)]) :=
 PLead_abs s P R hR (h.ex.mono (by omega) (by omega)) (by have:=h.len;simp at this;omega)
end Go.Proofs.YteicdddphdomkaaGreat
namespace Go.Proofs.YteicdddphdomkaaGreat
open Go.RowKit
set_option maxRecDepth 100000
theorem Same1_abs (s t:Tm) (hs:RSz s.c 1000000000) (ht:RSz t.c 1000000000):Abs Tryz.prog 109 [agD (tmC s),agD (tmC t)] (ex (.bool (decide (tcmp s t = 0)))):=by
 cases h:eqB s.m t.m with
 | true =>
  have e:tcmp s t = qcmp s.c t.c:=if_pos h
  by_cases hq:qcmp s.c t.c = 0
  ·have hd:decide (tcmp s t = 0) = true:=decide_eq_true (e.trans hq)
   refine Abs.intro Tryz.func109 rfl (callFunc_run Tryz.func109 (by kernel_rfl) (by kernel_rfl)) rfl fun s0=>?_
   rw [Tryz.ntmps109]
   apply AWp.seq;apply AWp.region;refine AWs.bx (ao rfl) rfl rfl rfl rfl ?_;refine AWs.bx (ao rfl) rfl rfl rfl rfl ?_;refine Wq Qz.assign ?_;apply AWl.nil;apply AThen.normal;apply AWp.seq;apply AWp.region;refine Wq Qz.fldP ?_;refine Wq Qz.ldD ?_;refine Wq Qz.fldP ?_;refine Wq Qz.ldD ?_;refine Wq Qz.eqMonT ?_;refine Wq Qz.move ?_;refine Wg Qz.fldP ?_;refine Wg Qz.ldD ?_;refine Wg Qz.fldP ?_;refine Wg Qz.ldD ?_;refine Wg (Qz.call (rCmp_abs s.c t.c hs ht)) ?_;refine Wg Qz.cmpT ?_;refine Wq Qz.pickT ?_;refine Wq Qz.assign ?_;apply AWl.nil;apply AThen.normal;apply AWp.ret
   exact Fin.ret (Rets.of1 (ResV.tmp rfl rfl) (D.le.of_eq (by rw [hd])))
  ·have hd : decide (tcmp s t = 0) = false := decide_eq_false (by rw [e]; exact hq)
   refine Abs.intro Tryz.func109 rfl (callFunc_run Tryz.func109 (by kernel_rfl) (by kernel_rfl)) rfl fun s0=>?_
   rw [Tryz.ntmps109]
   apply AWp.seq;apply AWp.region;refine AWs.bx (ao rfl) rfl rfl rfl rfl ?_;refine AWs.bx (ao rfl) rfl rfl rfl rfl ?_;refine Wq Qz.assign ?_;apply AWl.nil;apply AThen.normal;apply AWp.seq;apply AWp.region;refine Wq Qz.fldP ?_;refine Wq Qz.ldD ?_;refine Wq Qz.fldP ?_;refine Wq Qz.ldD ?_;refine Wq Qz.eqMonT ?_;refine Wq Qz.move ?_;refine Wg Qz.fldP ?_;refine Wg Qz.ldD ?_;refine Wg Qz.fldP ?_;refine Wg Qz.ldD ?_;refine Wg (Qz.call (rCmp_abs s.c t.c hs ht)) ?_;refine Wg Qz.cmpF ?_;refine Wq Qz.pickT ?_;refine Wq Qz.assign ?_;apply AWl.nil;apply AThen.normal;apply AWp.ret
   exact Fin.ret (Rets.of1 (ResV.tmp rfl rfl) (D.le.of_eq (by rw [hd])))
 | false =>
  have hn:¬ Eqv s.m t.m:=fun h'=>by rw [eqB_true.2 h'] at h;cases h
  have hd:decide (tcmp s t = 0) = false:=decide_eq_false fun e=>hn (tcmp_zero.1 e).2
  refine Abs.intro Tryz.func109 rfl (callFunc_run Tryz.func109 (by kernel_rfl) (by kernel_rfl)) rfl fun s0=>?_
  rw [Tryz.ntmps109]
  apply AWp.seq;apply AWp.region;refine AWs.bx (ao rfl) rfl rfl rfl rfl ?_;refine AWs.bx (ao rfl) rfl rfl rfl rfl ?_;refine Wq Qz.assign ?_;apply AWl.nil;apply AThen.normal;apply AWp.seq;apply AWp.region;refine Wq Qz.fldP ?_;refine Wq Qz.ldD ?_;refine Wq Qz.fldP ?_;refine Wq Qz.ldD ?_;refine Wq Qz.eqMonF ?_;refine Wq Qz.move ?_;refine Ws ?_;refine Ws ?_;refine Ws ?_;refine Ws ?_;refine Ws ?_;refine Ws ?_;refine Wq Qz.pickF ?_;refine Wq Qz.assign ?_;apply AWl.nil;apply AThen.normal;apply AWp.ret
  exact Fin.ret (Rets.of1 (ResV.tmp rfl rfl) (D.le.of_eq (by rw [hd])))
theorem EqualF_abs (P Q:List Tm) (hP:PSz P 1000000000) (hQ:PSz Q 1000000000) (hn:P.length≤1000000) (hm:Q.length≤1000000):Abs Tryz.prog 108 [polD P,polD Q,ex (.func (.func 109) #[] #[])] (ex (.bool (decide (pcmp P Q = 0)))):=by
 by_cases hlen:P.length = Q.length
 ·refine Abs.intro Tryz.func108 rfl (callFunc_run Tryz.func108 (by kernel_rfl) (by kernel_rfl)) rfl fun s0 => ?_
  rw [Tryz.ntmps108]
  apply AWp.seq;apply AWp.region;refine Wq Qz.assign ?_;apply AWl.nil;apply AThen.normal;apply AWp.seq;apply AWp.seq;apply AWp.region;refine Wq Qz.move ?_;refine Wq Qz.lenN ?_;refine Wq Qz.move ?_;refine Wq Qz.lenN ?_;refine Wq Qz.cmpF ?_;apply AWl.nil;apply AThen.normal;refine AWp.condF (ao rfl) ?_;apply AWp.skip;apply AThen.normal;apply AWp.seq;apply AWp.seq;apply AWp.region;refine Wq Qz.move ?_;refine Wq Qz.lenN ?_;refine Wq Qz.move ?_;apply AWl.nil;apply AThen.normal;apply AWp.block
  refine AWp.loop (fun mz σ=>∃ k,k≤P.length∧pcmp P Q = pcmp (P.drop k) (Q.drop k)∧mz = P.length - k∧σ = ⟨[(1,.d (polD Q)),(2,.d (ex (.func (.func 109) #[] #[]))),(15,.d (polD P)),(16,.d (ex (.int .i64 (P.length:Nat)))),(17,.d (ex (.int .i64 (k:Nat))))],[]⟩) ?le ⟨0,by omega,rfl,rfl,rfl⟩ ?round
  case le=>exact AS.le_of (by refine FrLe.cons rfl (AVle.d rfl) ?_;refine FrLe.cons rfl (AVle.d rfl) ?_;refine FrLe.cons rfl (AVle.d rfl) ?_;refine FrLe.cons rfl (AVle.d rfl) ?_;refine FrLe.cons rfl (AVle.d rfl) ?_;exact FrLe.nil) (by exact HpLe.nil)
  case round =>
   rintro m _ ⟨k,hk,heq,rfl,rfl⟩
   by_cases hlt:k<P.length
   ·have hlt2 : k < Q.length := by omega
    have hs:=hP _ (tAt_mem hlt)
    have ht:=hQ _ (tAt_mem hlt2)
    have hd:=pcmp_drop hlt hlt2
    have c1:=Same1_abs (tAt P k) (tAt Q k) hs ht
    by_cases hz:tcmp (tAt P k) (tAt Q k) = 0
    ·rw [if_pos hz] at hd
     rw [decide_eq_true hz] at c1
     apply AWp.seq;apply AWp.region;refine Wq Qz.cmpT ?_;apply AWl.nil;apply AThen.normal;apply AWp.seq;refine AWp.condT (ao rfl) ?_;apply AWp.skip;apply AThen.normal;apply AWp.seq;apply AWp.block;apply AWp.seq;apply AWp.region;refine Wq Qz.move ?_;refine Wq Qz.indexN ?_;refine Wq Qz.loadEf ?_;refine AWs.al (tab_of rfl) rfl rfl rfl rfl rfl rfl ?_;refine Wq Qz.assign ?_;refine AWs.stF (ao rfl) (ao rfl) rfl (tab_of rfl) rfl rfl rfl ?_;apply AWl.nil;apply AThen.normal;apply AWp.seq;apply AWp.region;refine Wq Qz.move ?_;refine Wq Qz.move ?_;refine Wq Qz.indexN ?_;refine Wq Qz.loadEf ?_;refine AWs.al (tab_of rfl) rfl rfl rfl rfl rfl rfl ?_;refine AWs.stF (ao rfl) (ao rfl) rfl (tab_of rfl) rfl rfl rfl ?_;apply AWl.nil;apply AThen.normal;apply AWp.seq;apply AWp.region;refine Wq Qz.move ?_;refine Wq Qz.ldD ?_;refine Wq Qz.ldD ?_;refine Wq (Qz.call (c1)) ?_;refine Wq Qz.not ?_;apply AWl.nil;apply AThen.normal;refine AWp.condF (ao rfl) ?_;apply AWp.skip;apply ABlock.normal;apply AThen.normal;apply AWp.region;refine Wq Qz.succ ?_;refine Wq Qz.move ?_;apply AWl.nil
     refine ALoop.next (P.length - (k+1)) (by omega) ⟨k+1,by omega,by rw [heq,hd],rfl,rfl⟩ ?_
     exact AS.le_of (by refine FrLe.cons rfl (AVle.d rfl) ?_;refine FrLe.cons rfl (AVle.d rfl) ?_;refine FrLe.cons rfl (AVle.d rfl) ?_;refine FrLe.cons rfl (AVle.d rfl) ?_;refine FrLe.cons rfl (AVle.d rfl) ?_;exact FrLe.nil) (by exact HpLe.nil)
    ·rw [if_neg hz] at hd
     rw [decide_eq_false hz] at c1
     have he:decide (pcmp P Q = 0) = false:=decide_eq_false (by rw [heq,hd];exact hz)
     apply AWp.seq;apply AWp.region;refine Wq Qz.cmpT ?_;apply AWl.nil;apply AThen.normal;apply AWp.seq;refine AWp.condT (ao rfl) ?_;apply AWp.skip;apply AThen.normal;apply AWp.seq;apply AWp.block;apply AWp.seq;apply AWp.region;refine Wq Qz.move ?_;refine Wq Qz.indexN ?_;refine Wq Qz.loadEf ?_;refine AWs.al (tab_of rfl) rfl rfl rfl rfl rfl rfl ?_;refine Wq Qz.assign ?_;refine AWs.stF (ao rfl) (ao rfl) rfl (tab_of rfl) rfl rfl rfl ?_;apply AWl.nil;apply AThen.normal;apply AWp.seq;apply AWp.region;refine Wq Qz.move ?_;refine Wq Qz.move ?_;refine Wq Qz.indexN ?_;refine Wq Qz.loadEf ?_;refine AWs.al (tab_of rfl) rfl rfl rfl rfl rfl rfl ?_;refine AWs.stF (ao rfl) (ao rfl) rfl (tab_of rfl) rfl rfl rfl ?_;apply AWl.nil;apply AThen.normal;apply AWp.seq;apply AWp.region;refine Wq Qz.move ?_;refine Wq Qz.ldD ?_;refine Wq Qz.ldD ?_;refine Wq (Qz.call (c1)) ?_;refine Wq Qz.not ?_;apply AWl.nil;apply AThen.normal;refine AWp.condT (ao rfl) ?_;apply AWp.seq;apply AWp.region;refine Wq Qz.assign ?_;apply AWl.nil;apply AThen.normal;apply AWp.ret;apply ABlock.ret;apply AThen.ret;apply ALoop.ret;apply ABlock.ret;apply AThen.ret
     exact Fin.ret (Rets.of1 (ResV.tmp rfl rfl) (D.le.of_eq (by rw [he])))
   ·have he:decide (pcmp P Q = 0) = true:=decide_eq_true (by
     rw [heq,(List.drop_eq_nil_of_le (by omega):P.drop k = []),(List.drop_eq_nil_of_le (by omega):Q.drop k = []),pcmp])
    apply AWp.seq;apply AWp.region;refine Wq Qz.cmpF ?_;apply AWl.nil;apply AThen.normal;apply AWp.seq;refine AWp.condF (ao rfl) ?_;apply AWp.exit;apply AThen.exit;apply ALoop.exit;apply ABlock.hit;apply AThen.normal;apply AWp.seq;apply AWp.region;refine Wq Qz.assign ?_;apply AWl.nil;apply AThen.normal;apply AWp.ret
    exact Fin.ret (Rets.of1 (ResV.tmp rfl rfl) (D.le.of_eq (by rw [he])))
 ·have he:decide (pcmp P Q = 0) = false:=decide_eq_false fun e=>hlen (pcmp_length e)
  refine Abs.intro Tryz.func108 rfl (callFunc_run Tryz.func108 (by kernel_rfl) (by kernel_rfl)) rfl fun s0=>?_
  rw [Tryz.ntmps108]
  apply AWp.seq;apply AWp.region;refine Wq Qz.assign ?_;apply AWl.nil;apply AThen.normal;apply AWp.seq;apply AWp.seq;apply AWp.region;refine Wq Qz.move ?_;refine Wq Qz.lenN ?_;refine Wq Qz.move ?_;refine Wq Qz.lenN ?_;refine Wq Qz.cmpT ?_;apply AWl.nil;apply AThen.normal;refine AWp.condT (ao rfl) ?_;apply AWp.seq;apply AWp.region;refine Wq Qz.assign ?_;apply AWl.nil;apply AThen.normal;apply AWp.ret;apply AThen.ret
  exact Fin.ret (Rets.of1 (ResV.tmp rfl rfl) (D.le.of_eq (by rw [he])))
theorem PSame_abs (P Q:List Tm) (hP:PSz P 1000000000) (hQ:PSz Q 1000000000) (hn:P.length≤1000000) (hm:Q.length≤1000000):Abs Tryz.prog 43 [polD P,polD Q] (ex (.bool (decide (pcmp P Q = 0)))):=by
 refine Abs.intro Tryz.func43 rfl (callFunc_run Tryz.func43 (by kernel_rfl) (by kernel_rfl)) rfl fun s0=>?_
 rw [Tryz.ntmps43]
 apply AWp.seq;apply AWp.region;refine Wq Qz.assign ?_;apply AWl.nil;apply AThen.normal;apply AWp.seq;apply AWp.region;refine Wq Qz.move ?_;refine Wq Qz.move ?_;refine Wq (Qz.call (EqualF_abs P Q hP hQ hn hm)) ?_;refine Wq Qz.assign ?_;apply AWl.nil;apply AThen.normal;apply AWp.ret
 exact Fin.ret (Rets.of1 (ResV.tmp rfl rfl) (D.le.refl _))
section
variable {P : Program} {hp:List Ow} {arg:Operand→AV} {dd:Option Tmp} {ty:TypeId} {ps:String} {af:Array Edge} {gd:Option (Nat × Bool)}
theorem Qs.eqBoolT {x y:Operand} {T U:TypeId} {a b:Bool} (hx:arg x = .d (ex (.bool a))) (hy:arg y = .d (ex (.bool b))) (hT:P.underlying T = some .bool) (h:(a == b) = true):Quiet P hp ⟨dd,.binOp .eql T x y U,ty,ps,af,gd⟩ arg (.d (ex (.bool true))):=by
 rw [← h];exact Qs.eqBool hx hy hT
end
end Go.Proofs.YteicdddphdomkaaGreat
namespace Go.Proofs.YteicdddphdomkaaGreat
open Go.RowKit
set_option maxRecDepth 100000
theorem PB.mulR {P Q:List Tm} {n N n' N':Nat} {d d':Int} (h:PB P n N d) (k:PB Q n' N' d') (h0:0≤d) (h0':0≤d'):PB (pmul P Q) (n'*n) (n'*(N'+N+1)) (d'+d) :=
 (k.mul h h0' h0).same (canon_unique (k.mul h h0' h0).can (h.mul k h0 h0').can (pmul_comm Q P))
theorem pow6_pb {P : List Tm} (h:PB P 3 9 3):∀ k,k≤6→PB (powF P k) 729 11649 18:=by
 have b0:PB (powF P 0) 1 1 0:=constL_pb (rsz_sm (by omega) (by omega)) (by omega)
 have b1:PB (powF P 1) 3 33 3:=b0.mulR h (by omega) (by omega)
 have b2:PB (powF P 2) 9 129 6:=b1.mulR h (by omega) (by omega)
 have b3:PB (powF P 3) 27 417 9:=b2.mulR h (by omega) (by omega)
 have b4:PB (powF P 4) 81 1281 12:=b3.mulR h (by omega) (by omega)
 have b5:PB (powF P 5) 243 3873 15:=b4.mulR h (by omega) (by omega)
 have b6:PB (powF P 6) 729 11649 18:=b5.mulR h (by omega) (by omega)
 intro k hk
 match k,hk with
 | 0,_=>exact b0.mono (by omega) (by omega) (by omega)
 | 1,_=>exact b1.mono (by omega) (by omega) (by omega)
 | 2,_=>exact b2.mono (by omega) (by omega) (by omega)
 | 3,_=>exact b3.mono (by omega) (by omega) (by omega)
 | 4,_=>exact b4.mono (by omega) (by omega) (by omega)
 | 5,_=>exact b5.mono (by omega) (by omega) (by omega)
 | 6,_=>exact b6
theorem pow_both {P : List Tm} (h:PB P 3 9 3) (z:Int) (hz:-6≤z∧z≤6):∃ A e,Abs Tryz.prog 53 [polD P,ex (.int .i64 z)] (tupD [polD A,ex (.int .i64 e)])∧Abs Tryz.prog 54 [polD P,ex (.int .i64 z)] (tupD [polD A,ex (.int .i64 e)]):=by
 by_cases h0:z<0
 ·exact ⟨_,_,PPowF_abs P z (.inl h0),RPowF_abs P z (.inl h0)⟩
 ·obtain ⟨n, rfl⟩ : ∃ n : Nat, z = n := ⟨z.toNat, by omega⟩
  have hb:∀ k,k≤n→PB (powF P k) 729 11649 18:=fun k hk=>pow6_pb h k (by omega)
  exact ⟨_,_,PPow_abs n h hb (by omega) (by omega) (by omega) (by omega) (by omega) (by omega) (by omega) (by omega),RPow_abs n h hb (by omega) (by omega) (by omega) (by omega) (by omega) (by omega) (by omega)⟩
theorem part_both {P : List Tm} (h:PB P 6 18 5) (z:Int):∃ A e,Abs Tryz.prog 24 [polD P,ex (.int .i64 z)] (tupD [polD A,ex (.int .i64 e)])∧Abs Tryz.prog 55 [polD P,ex (.int .i64 z)] (tupD [polD A,ex (.int .i64 e)]):=by
 by_cases h0:z<0∨7<z
 ·exact ⟨_,_,PPartF_abs P z h0,RPartF_abs P z h0⟩
 ·obtain ⟨i, rfl⟩ : ∃ n : Nat, z = n := ⟨z.toNat, by omega⟩
  exact ⟨_,_,PPart_abs P i 18 (by omega) h.sz (h.ex.mono (by omega) (by omega)) (by have:=h.len;omega) (by omega),RPart_pb i (by omega) h (by omega) (by omega) (by omega)⟩
theorem times_both {P : List Tm} (h:PB P 6 18 5) (c:Rat) (hc:RSz c 1) (m:Nat→Int) (hm:In8 m 0 100):∃ A,Abs Tryz.prog 39 [agD (ratC c),agD (monC m),polD P] (tupD [polD A,ex (.int .i64 0)])∧Abs Tryz.prog 52 [agD (ratC c),agD (monC m),polD P] (tupD [polD A,ex (.int .i64 0)]):=by
 have hl:=h.len
 by_cases h0:c = 0
 ·exact ⟨_,PTimes0_abs c m P h0,RTimes0_abs c m P h0⟩
 ·exact ⟨_,PTimes_abs c m P 1 18 h0 hc (hm.mono (by omega) (by omega)) h.sz (h.ex.mono (by omega) (by omega)) (fun t ht=>(add8_in hm (h.ex t ht)).mono (by omega) (by omega)) (by omega) (by omega),RTimes_abs c m P 1 18 h0 hc (hm.mono (by omega) (by omega)) h.sz (h.ex.mono (by omega) (by omega)) (fun t ht=>(add8_in hm (h.ex t ht)).mono (by omega) (by omega)) (by omega) (by omega)⟩
theorem monic_both {P : List Tm} (h:PB P 6 18 5) (R:List (Nat→Int)) (hR:∀ r∈R,In8 r (-1000) 1000):∃ A,Abs Tryz.prog 34 [polD P,ordD R] (polD A)∧Abs Tryz.prog 60 [polD P,ordD R] (polD A):=by
 have hl:=h.len
 cases P with
 | nil=>exact ⟨_,PMonic0_abs R,RMonic0_abs R⟩
 | cons s P=>exact ⟨_,PMonic_abs s P R 18 hR (h.ex.mono (by omega) (by omega)) (by simp at hl;omega) h.can.2 h.sz (by omega),RMonic_abs s P R 18 hR (h.ex.mono (by omega) (by omega)) (by simp at hl;omega) h.can.2 h.sz (by omega)⟩
theorem sameLead0_abs (R : List (Nat→Int)):Abs Tryz.prog 59 [polD [],ordD R] (ex (.bool true)):=by
 have hz:eqB (fun _=>0) (fun _=>0) = true:=by decide
 refine Abs.intro Tryz.func59 rfl (callFunc_run Tryz.func59 (by kernel_rfl) (by kernel_rfl)) rfl fun s0=>?_
 rw [Tryz.ntmps59]
 apply AWp.seq;apply AWp.region;refine Wq Qz.assign ?_;apply AWl.nil;apply AThen.normal;apply AWp.seq;apply AWp.region;refine Wq Qz.move ?_;refine Wq Qz.move ?_;refine Wq (Qz.call (PLead0_abs R)) ?_;refine Wq Qz.move ?_;refine Wq Qz.ext ?_;refine Wq Qz.ext ?_;refine AWs.al (tab_of rfl) rfl rfl rfl rfl rfl rfl ?_;refine AWs.stF (ao rfl) (ao rfl) rfl (tab_of rfl) rfl rfl rfl ?_;refine Wq Qz.assign ?_;apply AWl.nil;apply AThen.normal;apply AWp.seq;apply AWp.region;refine Wq Qz.move ?_;refine Wq Qz.move ?_;refine Wq (Qz.call (RLead0_abs R)) ?_;refine Wq Qz.move ?_;refine Wq Qz.ext ?_;refine Wq Qz.ext ?_;refine AWs.al (tab_of rfl) rfl rfl rfl rfl rfl rfl ?_;refine AWs.stF (ao rfl) (ao rfl) rfl (tab_of rfl) rfl rfl rfl ?_;refine Wq Qz.assign ?_;apply AWl.nil;apply AThen.normal;apply AWp.seq;apply AWp.region;refine Wq Qz.move ?_;refine Wq Qz.move ?_;refine Wq Qz.eqBool ?_;refine Wq Qz.move ?_;refine Wg Qz.move ?_;refine Wg Qz.not ?_;refine Wg Qz.move ?_;refine Wg Qz.fldP ?_;refine Wg Qz.ldD ?_;refine Wg Qz.fldP ?_;refine Wg Qz.ldD ?_;(refine AWs.qG rfl rfl rfl rfl rfl ?_;refine ⟨_,Qs.eqMonT (a:=fun _=>0) (b:=fun _=>0) (ao rfl) (ao rfl) hz,?_⟩);refine Wg Qz.pickT ?_;refine Wg Qz.move ?_;refine Ws ?_;refine Ws ?_;refine Ws ?_;refine Ws ?_;refine Ws ?_;refine Ws ?_;refine Wg Qz.pickT ?_;refine Wq Qz.pickT ?_;refine Wq Qz.assign ?_;apply AWl.nil;apply AThen.normal;apply AWp.ret
 exact Fin.ret (Rets.of1 (ResV.tmp rfl rfl) (D.le.refl _))
theorem sameLead_abs (s : Tm) (P:List Tm) (R:List (Nat→Int)) (hR:∀ r∈R,In8 r (-1000) 1000) (h:PB (s :: P) 6 18 5):Abs Tryz.prog 59 [polD (s :: P),ordD R] (ex (.bool true)):=by
 have hl:=h.len
 have ct:=RSameTerm_abs (leadF R s P) (leadF R s P)
 rw [show tmB (leadF R s P) (leadF R s P) = true from by simp [tmB,eqB]] at ct
 refine Abs.intro Tryz.func59 rfl (callFunc_run Tryz.func59 (by kernel_rfl) (by kernel_rfl)) rfl fun s0=>?_
 rw [Tryz.ntmps59]
 apply AWp.seq;apply AWp.region;refine Wq Qz.assign ?_;apply AWl.nil;apply AThen.normal;apply AWp.seq;apply AWp.region;refine Wq Qz.move ?_;refine Wq Qz.move ?_;refine Wq (Qz.call (PLead_pb R hR h (by omega) (by omega))) ?_;refine Wq Qz.move ?_;refine Wq Qz.ext ?_;refine Wq Qz.ext ?_;refine AWs.al (tab_of rfl) rfl rfl rfl rfl rfl rfl ?_;refine AWs.stF (ao rfl) (ao rfl) rfl (tab_of rfl) rfl rfl rfl ?_;refine Wq Qz.assign ?_;apply AWl.nil;apply AThen.normal;apply AWp.seq;apply AWp.region;refine Wq Qz.move ?_;refine Wq Qz.move ?_;refine Wq (Qz.call (RLead_abs s P R hR (h.ex.mono (by omega) (by omega)) (by simp at hl;omega))) ?_;refine Wq Qz.move ?_;refine Wq Qz.ext ?_;refine Wq Qz.ext ?_;refine AWs.al (tab_of rfl) rfl rfl rfl rfl rfl rfl ?_;refine AWs.stF (ao rfl) (ao rfl) rfl (tab_of rfl) rfl rfl rfl ?_;refine Wq Qz.assign ?_;apply AWl.nil;apply AThen.normal;apply AWp.seq;apply AWp.region;refine Wq Qz.move ?_;refine Wq Qz.move ?_;refine Wq Qz.eqBool ?_;refine Wq Qz.move ?_;refine Wg Qz.move ?_;refine Wg Qz.not ?_;refine Wg Qz.move ?_;refine Ws ?_;refine Ws ?_;refine Ws ?_;refine Ws ?_;refine Ws ?_;refine Wg Qz.pickF ?_;refine Wg Qz.move ?_;refine Wg Qz.move ?_;refine Wg Qz.move ?_;refine Wg Qz.ldD ?_;refine Wg Qz.ldD ?_;refine Wg (Qz.call (ct)) ?_;refine Wg Qz.pickT ?_;refine Wg Qz.pickF ?_;refine Wq Qz.pickT ?_;refine Wq Qz.assign ?_;apply AWl.nil;apply AThen.normal;apply AWp.ret
 exact Fin.ret (Rets.of1 (ResV.tmp rfl rfl) (D.le.refl _))
theorem sameLead_pb {P : List Tm} (R:List (Nat→Int)) (hR:∀ r∈R,In8 r (-1000) 1000) (h:PB P 6 18 5):Abs Tryz.prog 59 [polD P,ordD R] (ex (.bool true)):=by
 cases P with
 | nil=>exact sameLead0_abs R
 | cons s P=>exact sameLead_abs s P R hR h
theorem Qs.convTo {P : Program} {hp:List Ow} {arg:Operand→AV} {dd:Option Tmp} {ty:TypeId} {ps:String} {af:Array Edge} {gd:Option (Nat × Bool)} {S T:TypeId} {x:Operand} {k k':IntKind} {a c:Int} {d:TypeDesc} {n b n' b':Nat} {z z':Value} (hx:arg x = .d (ex (.int k a))) (hS:Tab P S d n b z) (hT:Tab P T (.int k') n' b' z') (h:k'.wrap a = c):Quiet P hp ⟨dd,.convert S T x,ty,ps,af,gd⟩ arg (.d (ex (.int k' c))):=by
 rw [← h];exact Qs.conv hx hS hT
theorem tmod7 (z : Int):-6≤Int.tmod z 7∧Int.tmod z 7≤6:=by
 rcases Int.le_total 0 z with h | h
 ·rw [Int.tmod_eq_emod_of_nonneg h];omega
 ·have:Int.tmod z 7 = -((-z) % 7):=by
   rw [← Int.tmod_eq_emod_of_nonneg (by omega),Int.neg_tmod,Int.neg_neg]
  omega
theorem wrap_u8_nat (z : Int):∃ n:Nat,n<256∧IntKind.u8.wrap z = (n:Int):=by
 have h:0≤IntKind.u8.wrap z∧IntKind.u8.wrap z<256:=by
  unfold IntKind.wrap
  simp only [IntKind.signed,IntKind.bits]
  simp
  omega
 exact ⟨(IntKind.u8.wrap z).toNat,by omega,by omega⟩
set_option maxHeartbeats 8000000 in
theorem mref_abs (T : Nat) (X:List (Nat→Int)) (U:Nat) (Y:List (Nat→Int)) (x:Nat→Int) (hX:Raw8 X) (hY:Raw8 Y) (hx:∀ j,j<4→-128≤x j∧x j≤127):Abs Tryz.prog 12 [agD [r5D T X],agD [r5D U Y],agD (i4C x)] (ex (.bool true)):=by
 have hp:PB (madeP X 4 5 6) 6 18 5:=madeP_pb X 4 6 (by omega)
 have hq:PB (madeP Y 4 5 6) 6 18 5:=madeP_pb Y 4 6 (by omega)
 have hw:PB (madeP X 2 3 3) 3 9 3:=madeP_pb X 2 3 (by omega)
 have cp:=poly_abs T X hX
 have cq:=poly_abs U Y hY
 have cw:=RMade_abs T X 2 3 3 hX (by omega) (by omega) (by omega) (by omega)
 generalize madeP X 4 5 6 = p at hp cp
 generalize madeP Y 4 5 6 = q at hq cq
 generalize madeP X 2 3 3 = w at hw cw
 have x0:=hx 0 (by omega)
 have x1:=hx 1 (by omega)
 have x2:=hx 2 (by omega)
 have x3:=hx 3 (by omega)
 have t7:=tmod7 (x 1)
 obtain ⟨A1,e1,c1,c1'⟩:=pow_both hw ((x 1).tmod 7) t7
 obtain ⟨A2,e2,c2,c2'⟩:=part_both hp (x 0)
 have hsm:RSz ((x 2:Int):Rat) 1:=rsz_sm (by omega) (by omega)
 have hm:In8 (fun i=>([3,0,max ((x 1).tmod 7) 0,0,0,0,0,1]:List Int).getD i 0) 0 100:=fun i hi=>by
  match i,hi with
  | 0,_ | 1,_ | 2,_ | 3,_ | 4,_ | 5,_ | 6,_ | 7,_=>simp;try omega
 obtain ⟨A3,c3,c3'⟩:=times_both hp ((x 2:Int):Rat) hsm _ hm
 obtain ⟨n,hn,hnw⟩:=wrap_u8_nat (x 3)
 have cR:=ROrder_abs n hn
 have hR:=ordR_in n
 generalize ordR n = R at hR cR
 obtain ⟨A4,c4,c4'⟩:=monic_both hp R hR
 have cl:=sameLead_pb R hR hp
 have hpl:=hp.len
 have hql:=hq.len
 have csame:=PSame_abs p q (hp.sz.mono (by omega)) (hq.sz.mono (by omega)) (by omega) (by omega)
 have crs:=RSame_abs p q
 have ccmp:=PCmp_abs p q (hp.sz.mono (by omega)) (hq.sz.mono (by omega)) (by omega) (by omega)
 have crcmp:=RPCmp_abs p q (hp.sz.mono (by omega)) (hq.sz.mono (by omega)) (by omega) (by omega)
 have hsb:(decide (pcmp p q = 0) == sameB p q) = true:=by
  by_cases h:SameL p q
  ·rw [sameB_true.2 h,decide_eq_true (pcmp_zero.2 h)];rfl
  ·rw [sameB_false h,decide_eq_false fun e=>h (pcmp_zero.1 e)];rfl
 have cdp:=PDeg_abs p (hp.ex.mono (by omega) (by omega)) (by omega)
 have cdr:=RDeg_abs p (hp.ex.mono (by omega) (by omega)) (by omega)
 have cup:=PUses_abs p (by omega)
 have cur:=RUses_abs p (by omega)
 refine Abs.intro Tryz.func12 rfl (callFunc_run Tryz.func12 (by kernel_rfl) (by kernel_rfl)) rfl fun s0=>?_
 rw [Tryz.ntmps12]
 apply AWp.seq;apply AWp.region;refine AWs.bx (ao rfl) rfl rfl rfl rfl ?_;refine AWs.bx (ao rfl) rfl rfl rfl rfl ?_;refine AWs.bx (ao rfl) rfl rfl rfl rfl ?_;refine Wq Qz.assign ?_;apply AWl.nil;apply AThen.normal;apply AWp.seq;apply AWp.region;refine Wq (Qz.call (sanity_abs)) ?_;refine Wq Qz.assign ?_;apply AWl.nil;apply AThen.normal;apply AWp.seq;apply AWp.seq;apply AWp.region;refine Wq Qz.move ?_;refine Wq Qz.not ?_;apply AWl.nil;apply AThen.normal;refine AWp.condF (ao rfl) ?_;apply AWp.skip;apply AThen.normal;apply AWp.seq
 refine AWp.dr' (DrawOk.self (by kernel_rfl)) [[],[(33,0)],[],[(35,2)]] [[],[0],[],[0,1,2]] rfl (by kernel_rfl) (by kernel_rfl) (by kernel_rfl) ?_
 refine Xq Qz.ldD ?_;refine Xq (Qz.call (cp)) ?_;refine Xq Qz.ldD ?_;refine Xq (Qz.call (cq)) ?_;refine ⟨_,rfl,?_⟩
 refine Wq Qz.assign ?_;refine Wq Qz.assign ?_;apply AWl.nil;apply AThen.normal;apply AWp.seq
 refine AWp.dr' (DrawOk.self (by kernel_rfl)) [[],[(37,0)],[(38,1)],[],[(40,3)],[(41,4)],[(42,5)],[(39,2)]] [[],[0],[0,1],[],[3],[3,4],[3,4,5],[0,1,2]] rfl (by kernel_rfl) (by kernel_rfl) (by kernel_rfl) ?_
 refine Xq Qz.ixPL ?_;refine Xq Qz.ldD1 ?_;refine Xq Qz.conv64 ?_;refine Xq Qz.ixPL ?_;refine Xq Qz.ldD1 ?_;refine Xq Qz.conv64 ?_;refine Xq Qz.remT ?_;refine Xq Qz.assign ?_;refine ⟨_,rfl,?_⟩
 refine Wq Qz.assign ?_;apply AWl.nil;apply AThen.normal;apply AWp.seq;apply AWp.region;refine Wq Qz.move ?_;refine Wq Qz.max ?_;(refine AWs.q rfl rfl ?_;(refine Bq.arr (tab_of rfl) (tab_of rfl) rfl rfl ?_;(repeat ((first | refine ⟨_,PartOk.ag (ao rfl),?_⟩ | refine ⟨_,PartOk.one rfl (by first | exact One.ex_ rfl | exact One.sl | exact One.ep),?_⟩);refine ⟨_,rfl,?_⟩));refine ⟨_,rfl,?_⟩));refine AWs.al (tab_of rfl) rfl rfl rfl rfl rfl rfl ?_;refine AWs.stF (ao rfl) (ao rfl) rfl (tab_of rfl) rfl rfl rfl ?_;apply AWl.nil;apply AThen.normal;apply AWp.seq;apply AWp.region;refine Wq Qz.ixPL ?_;refine Wq Qz.ldD1 ?_;refine Wq Qz.conv64 ?_;refine Wq (Qz.call (RWhole_abs (x 2) (by omega) (by omega))) ?_;refine AWs.al (tab_of rfl) rfl rfl rfl rfl rfl rfl ?_;refine AWs.stF (ao rfl) (ao rfl) rfl (tab_of rfl) rfl rfl rfl ?_;apply AWl.nil;apply AThen.normal;apply AWp.seq;apply AWp.region;refine Wq Qz.move ?_;refine Wq Qz.move ?_;refine Wq (Qz.call (PMul_pb hp hq (by omega) (by omega) (by omega) (by omega) (by omega))) ?_;refine Wq Qz.move ?_;refine Wq Qz.ext ?_;refine Wq Qz.ext ?_;refine Wq Qz.assign ?_;refine Wq Qz.assign ?_;apply AWl.nil;apply AThen.normal;apply AWp.seq;apply AWp.region;refine Wq Qz.ldD ?_;refine Wq (Qz.call (cw)) ?_;refine Wq Qz.move ?_;refine Wq (Qz.call (c1)) ?_;refine Wq Qz.move ?_;refine Wq Qz.ext ?_;refine Wq Qz.ext ?_;refine Wq Qz.assign ?_;refine Wq Qz.assign ?_;apply AWl.nil;apply AThen.normal;apply AWp.seq;apply AWp.region;refine Wq Qz.ldD ?_;refine Wq (Qz.call (cw)) ?_;refine Wq Qz.move ?_;refine Wq (Qz.call (c1')) ?_;refine Wq Qz.move ?_;refine Wq Qz.ext ?_;refine Wq Qz.ext ?_;refine Wq Qz.assign ?_;refine Wq Qz.assign ?_;apply AWl.nil;apply AThen.normal;apply AWp.seq;apply AWp.region;refine Wq Qz.move ?_;refine Wq Qz.move ?_;refine Wq (Qz.call (c2)) ?_;refine Wq Qz.move ?_;refine Wq Qz.ext ?_;refine Wq Qz.ext ?_;refine Wq Qz.assign ?_;refine Wq Qz.assign ?_;apply AWl.nil;apply AThen.normal;apply AWp.seq;apply AWp.region;refine Wq Qz.move ?_;refine Wq Qz.move ?_;refine Wq (Qz.call (c2')) ?_;refine Wq Qz.move ?_;refine Wq Qz.ext ?_;refine Wq Qz.ext ?_;refine Wq Qz.assign ?_;refine Wq Qz.assign ?_;apply AWl.nil;apply AThen.normal;apply AWp.seq;apply AWp.region;refine Wq Qz.ldD ?_;refine Wq Qz.ldD ?_;refine Wq Qz.move ?_;refine Wq (Qz.call (c3)) ?_;refine Wq Qz.move ?_;refine Wq Qz.ext ?_;refine Wq Qz.ext ?_;refine Wq Qz.assign ?_;refine Wq Qz.assign ?_;apply AWl.nil;apply AThen.normal;apply AWp.seq;apply AWp.region;refine Wq Qz.ldD ?_;refine Wq Qz.ldD ?_;refine Wq Qz.move ?_;refine Wq (Qz.call (c3')) ?_;refine Wq Qz.move ?_;refine Wq Qz.ext ?_;refine Wq Qz.ext ?_;refine Wq Qz.assign ?_;refine Wq Qz.assign ?_;apply AWl.nil;apply AThen.normal;apply AWp.seq;apply AWp.seq;apply AWp.region;refine Wq Qz.move ?_;refine Wq Qz.cmpF ?_;refine Wq Qz.move ?_;refine Wg Qz.move ?_;refine Wg Qz.move ?_;refine Wg Qz.move ?_;refine Wg (Qz.call (RBy_pb hp hq (by omega) (by omega) (by omega) (by omega) (by omega) (by omega))) ?_;refine Wg (Qz.call (RSame_true (SameL.refl _))) ?_;refine Wg Qz.not ?_;refine Wq Qz.pickF ?_;refine Wq Qz.move ?_;refine Wg Qz.move ?_;refine Wg Qz.move ?_;refine Wg Qz.cmpF ?_;refine Wq Qz.pickF ?_;refine Wq Qz.move ?_;refine Wg Qz.move ?_;refine Wg Qz.move ?_;refine Wg (Qz.call (RSame_true (SameL.refl _))) ?_;refine Wg Qz.not ?_;refine Wq Qz.pickF ?_;refine Wq Qz.move ?_;refine Wg Qz.move ?_;refine Wg Qz.move ?_;refine Wg Qz.cmpF ?_;refine Wq Qz.pickF ?_;refine Wq Qz.move ?_;refine Wg Qz.move ?_;refine Wg Qz.move ?_;refine Wg (Qz.call (RSame_true (SameL.refl _))) ?_;refine Wg Qz.not ?_;refine Wq Qz.pickF ?_;refine Wq Qz.move ?_;refine Wg Qz.move ?_;refine Wg Qz.move ?_;refine Wg Qz.cmpF ?_;refine Wq Qz.pickF ?_;refine Wq Qz.move ?_;refine Wg Qz.move ?_;refine Wg Qz.move ?_;refine Wg (Qz.call (RSame_true (SameL.refl _))) ?_;refine Wg Qz.not ?_;refine Wq Qz.pickF ?_;apply AWl.nil;apply AThen.normal;refine AWp.condF (ao rfl) ?_;apply AWp.skip;apply AThen.normal;apply AWp.seq;apply AWp.region;refine Wq Qz.ixPL ?_;refine Wq Qz.ldD1 ?_;(refine AWs.q rfl rfl ?_;refine ⟨_,Qs.convTo (ao rfl) (tab_of rfl) (tab_of rfl) hnw,?_⟩);refine Wq (Qz.call (cR)) ?_;refine Wq Qz.assign ?_;apply AWl.nil;apply AThen.normal;apply AWp.seq;apply AWp.region;refine Wq Qz.move ?_;refine Wq Qz.move ?_;refine Wq (Qz.call (PAdd_pb hp hq (by omega) (by omega))) ?_;refine Wq Qz.move ?_;refine Wq Qz.move ?_;refine Wq (Qz.call (RAdd_pb hp hq (by omega) (by omega))) ?_;refine Wq (Qz.call (RSame_true (SameL.refl _))) ?_;refine Wq Qz.move ?_;refine Wg Qz.move ?_;refine Wg Qz.move ?_;refine Wg (Qz.call (PSub_pb hp hq (by omega) (by omega))) ?_;refine Wg Qz.move ?_;refine Wg Qz.move ?_;refine Wg (Qz.call (RSub_pb hp hq (by omega) (by omega) (by omega))) ?_;refine Wg (Qz.call (RSame_true (SameL.refl _))) ?_;refine Wq Qz.pickT ?_;refine Wq Qz.move ?_;refine Wg Qz.move ?_;refine Wg Qz.move ?_;refine Wg (Qz.call (csame)) ?_;refine Wg Qz.move ?_;refine Wg Qz.move ?_;refine Wg (Qz.call (crs)) ?_;(refine AWs.qG rfl rfl rfl rfl rfl ?_;refine ⟨_,Qs.eqBoolT (ao rfl) (ao rfl) (by kernel_rfl) (by assumption),?_⟩);refine Wq Qz.pickT ?_;refine Wq Qz.move ?_;refine Wg Qz.move ?_;refine Wg Qz.move ?_;refine Wg (Qz.call (ccmp)) ?_;refine Wg Qz.move ?_;refine Wg Qz.move ?_;refine Wg (Qz.call (crcmp)) ?_;refine Wg Qz.cmpT ?_;refine Wq Qz.pickT ?_;refine Wq Qz.assign ?_;apply AWl.nil;apply AThen.normal;apply AWp.seq
 refine AWp.dr' (DrawOk.self (by kernel_rfl)) [[],[(178,0)],[],[],[(180,2),(181,3)],[(179,1),(182,4)],[(183,5)],[],[],[(185,7),(186,8)],[],[],[(188,10),(189,11)],[(187,9),(190,12)],[(184,6),(191,13)],[(192,14)],[],[(194,16)],[],[(196,18)],[(195,17),(197,19)],[(193,15),(198,20)],[(199,21)],[],[(201,23)],[],[(203,25)],[(202,24),(204,26)],[(200,22),(205,27)],[(206,28)],[],[(208,30)],[],[(210,32)],[(209,31),(211,33)],[(207,29),(212,34)],[(213,35)],[],[(214,36),(215,37)]] [[],[0],[0,1],[0,1],[0,1,2,3],[0,1,2,3,4],[0,1,2,3,4,5],[0,1,2,3,4,5,6],[0,1,2,3,4,5,6],[0,1,2,3,4,5,6,7,8],[0,1,2,3,4,5,6],[0,1,2,3,4,5,6],[0,1,2,3,4,5,6,7,8,9,10,11],[0,1,2,3,4,5,6,7,8,9,10,11,12],[0,1,2,3,4,5,6,7,8,9,10,11,12,13],[0,1,2,3,4,5,6,7,8,9,10,11,12,13,14],[0,1,2,3,4,5,6,7,8,9,10,11,12,13,14,15],[0,1,2,3,4,5,6,7,8,9,10,11,12,13,14,15,16],[0,1,2,3,4,5,6,7,8,9,10,11,12,13,14,15],[0,1,2,3,4,5,6,7,8,9,10,11,12,13,14,15,16,17,18],[0,1,2,3,4,5,6,7,8,9,10,11,12,13,14,15,16,17,18,19],[0,1,2,3,4,5,6,7,8,9,10,11,12,13,14,15,16,17,18,19,20],[0,1,2,3,4,5,6,7,8,9,10,11,12,13,14,15,16,17,18,19,20,21],[0,1,2,3,4,5,6,7,8,9,10,11,12,13,14,15,16,17,18,19,20,21,22],[0,1,2,3,4,5,6,7,8,9,10,11,12,13,14,15,16,17,18,19,20,21,22,23],[0,1,2,3,4,5,6,7,8,9,10,11,12,13,14,15,16,17,18,19,20,21,22],[0,1,2,3,4,5,6,7,8,9,10,11,12,13,14,15,16,17,18,19,20,21,22,23,24,25],[0,1,2,3,4,5,6,7,8,9,10,11,12,13,14,15,16,17,18,19,20,21,22,23,24,25,26],[0,1,2,3,4,5,6,7,8,9,10,11,12,13,14,15,16,17,18,19,20,21,22,23,24,25,26,27],[0,1,2,3,4,5,6,7,8,9,10,11,12,13,14,15,16,17,18,19,20,21,22,23,24,25,26,27,28],[0,1,2,3,4,5,6,7,8,9,10,11,12,13,14,15,16,17,18,19,20,21,22,23,24,25,26,27,28,29],[0,1,2,3,4,5,6,7,8,9,10,11,12,13,14,15,16,17,18,19,20,21,22,23,24,25,26,27,28,29,30],[0,1,2,3,4,5,6,7,8,9,10,11,12,13,14,15,16,17,18,19,20,21,22,23,24,25,26,27,28,29],[0,1,2,3,4,5,6,7,8,9,10,11,12,13,14,15,16,17,18,19,20,21,22,23,24,25,26,27,28,29,30,31,32],[0,1,2,3,4,5,6,7,8,9,10,11,12,13,14,15,16,17,18,19,20,21,22,23,24,25,26,27,28,29,30,31,32,33],[0,1,2,3,4,5,6,7,8,9,10,11,12,13,14,15,16,17,18,19,20,21,22,23,24,25,26,27,28,29,30,31,32,33,34],[0,1,2,3,4,5,6,7,8,9,10,11,12,13,14,15,16,17,18,19,20,21,22,23,24,25,26,27,28,29,30,31,32,33,34,35],[0,1,2,3,4,5,6,7,8,9,10,11,12,13,14,15,16,17,18,19,20,21,22,23,24,25,26,27,28,29,30,31,32,33,34,35,36],[0,1,2,3,4,5,6,7,8,9,10,11,12,13,14,15,16,17,18,19,20,21,22,23,24,25,26,27,28,29,30,31,32,33,34,35,36,37]] rfl (by kernel_rfl) (by kernel_rfl) (by kernel_rfl) ?_
 refine Xq Qz.move ?_;refine Xq Qz.move ?_;refine Xg Qz.move ?_;refine Xg Qz.move ?_;refine Xg (Qz.call (cl)) ?_;refine Xq Qz.pickT ?_;refine Xq Qz.move ?_;refine Xg Qz.move ?_;refine Xg Qz.move ?_;refine Xg (Qz.call (c4)) ?_;refine Xg Qz.move ?_;refine Xg Qz.move ?_;refine Xg (Qz.call (c4')) ?_;refine Xg (Qz.call (RSame_true (SameL.refl _))) ?_;refine Xq Qz.pickT ?_;refine Xq Qz.move ?_;refine Xg Qz.move ?_;refine Xg (Qz.call (cdp)) ?_;refine Xg Qz.move ?_;refine Xg (Qz.call (cdr)) ?_;refine Xg Qz.cmpT ?_;refine Xq Qz.pickT ?_;refine Xq Qz.move ?_;refine Xg Qz.move ?_;refine Xg (Qz.call (cup)) ?_;refine Xg Qz.move ?_;refine Xg (Qz.call (cur)) ?_;refine Xg Qz.cmpT ?_;refine Xq Qz.pickT ?_;refine Xq Qz.move ?_;refine Xg Qz.ldD ?_;refine Xg (Qz.call (PConst_abs ((x 2:Int):Rat))) ?_;refine Xg Qz.ldD ?_;refine Xg (Qz.call (RConst_abs ((x 2:Int):Rat))) ?_;refine Xg (Qz.call (RSame_true (SameL.refl _))) ?_;refine Xq Qz.pickT ?_;refine Xq Qz.move ?_;refine Xg Qz.move ?_;refine Xq Qz.pickT ?_;refine ⟨_,rfl,?_⟩
 refine Wq Qz.assign ?_;apply AWl.nil;apply AThen.normal;apply AWp.ret
 exact Fin.ret (Rets.of1 (ResV.tmp rfl rfl) (D.le.refl _))
theorem mref_law (T : Nat) (X:List (Nat→Int)) (U:Nat) (Y:List (Nat→Int)) (x:Nat→Int) (hX:Raw8 X) (hY:Raw8 Y) (hx:∀ j,j<4→-128≤x j∧x j≤127):Abs Tryz.prog 12 [agD [r5D T X],agD [r5D U Y],agD [ex (.int .i8 (x 0)),ex (.int .i8 (x 1)),ex (.int .i8 (x 2)),ex (.int .i8 (x 3))]] (ex (.bool true)):=mref_abs T X U Y x hX hY hx
end Go.Proofs.YteicdddphdomkaaGreat
