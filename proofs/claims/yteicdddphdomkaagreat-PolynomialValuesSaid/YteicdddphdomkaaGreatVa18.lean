/-
  Part 18 of the proof that polynomialValues_holds holds; the statement is the last theorem of the last part. No condition.
-/
import Derived.Test.YteicdddphdomkaaGreatVa17
set_option linter.unusedSimpArgs false
set_option linter.unusedVariables false
namespace Go.Proofs.YteicdddphdomkaaGreat
open Go.RowKit
set_option maxRecDepth 100000
theorem mrg_gt {s t : Tm} {P Q : List Tm} (h : lx s.m t.m = 1) : mrg (s :: P) (t :: Q) = s :: mrg P (t :: Q) := by
 rw [mrg, if_pos (show 0 < lx s.m t.m by omega)]
theorem mrg_lt {s t : Tm} {P Q : List Tm} (h : lx s.m t.m = -1) : mrg (s :: P) (t :: Q) = t :: mrg (s :: P) Q := by
 rw [mrg, if_neg (show ¬ 0 < lx s.m t.m by omega), if_pos (show lx s.m t.m < 0 by omega)]
theorem mrg_eq {s t : Tm} {P Q : List Tm} (h : lx s.m t.m = 0) : mrg (s :: P) (t :: Q) = if s.c + t.c = 0 then mrg P Q else ⟨s.c + t.c, s.m⟩ :: mrg P Q := by
 rw [mrg, if_neg (show ¬ 0 < lx s.m t.m by omega), if_neg (show ¬ lx s.m t.m < 0 by omega)]
theorem nil_mrg (Q : List Tm) : mrg [] Q = Q := by rw [mrg]
set_option maxHeartbeats 1000000 in
theorem RAdd_pol (P Q : List Tm) (N M : Nat) (hP : PSz P N) (hQ : PSz Q M) (hNM : N + M + 1 ≤ 4398046511103) (hn : P.length + Q.length ≤ 100000) : Abs Tryz.prog 56 [polD P, polD Q] (polD (mrg P Q)) := by
 refine Abs.intro Tryz.func56 rfl (callFunc_run Tryz.func56 (by kernel_rfl) (by kernel_rfl)) rfl fun s0 => ?_
 rw [Tryz.ntmps56]
 apply AWp.seq; apply AWp.region; refine Wq Qz.assign ?_; apply AWl.nil; apply AThen.normal; apply AWp.seq; apply AWp.region; refine AWs.b0 (tab_of rfl) (tab_of rfl) rfl rfl rfl rfl rfl ?_; refine Wq Qz.assign ?_; apply AWl.nil; apply AThen.normal; apply AWp.seq; apply AWp.region; refine Wq Qz.assign ?_; refine Wq Qz.assign ?_; apply AWl.nil; apply AThen.normal; apply AWp.seq; apply AWp.block
 refine AWp.loop (fun mz σ => ∃ (i k : Nat) (R : List Tm), i ≤ P.length ∧ k ≤ Q.length ∧ R ++ mrg (P.drop i) (Q.drop k) = mrg P Q ∧ R.length ≤ i + k ∧ mz = (P.length - i) + (Q.length - k) ∧ σ = ⟨[(0, .d (polD P)), (1, .d (polD Q)), (5, .own 0), (6, .d (ex (.int .i64 (i : Nat)))), (7, .d (ex (.int .i64 (k : Nat))))], [.row 33 12 (R.map tmC)]⟩) ?le ⟨0, 0, [], by omega, by omega, rfl, by simp, rfl, rfl⟩ ?round
 case le => exact AS.le_of (by refine FrLe.cons rfl (AVle.d rfl) ?_; refine FrLe.cons rfl (AVle.d rfl) ?_; refine FrLe.cons rfl (AVle.own rfl) ?_; refine FrLe.cons rfl (AVle.d rfl) ?_; refine FrLe.cons rfl (AVle.d rfl) ?_; exact FrLe.nil) (by refine HpLe.cons (OwLe.row rfl) ?_; exact HpLe.nil)
 case round =>
  rintro mz _ ⟨i, k, R, hi, hk, heq, hl, rfl, rfl⟩
  by_cases hip : i < P.length
  ·have hdP := drop_tAt hip
   by_cases hkq : k < Q.length
   ·have hdQ := drop_tAt hkq
    rw [hdP, hdQ] at heq
    have hs := hP _ (tAt_mem hip)
    have ht := hQ _ (tAt_mem hkq)
    rcases lx_val (tAt P i).m (tAt Q k).m with hc | hc | hc
    ·have hc' : lex8 (tAt P i).m (tAt Q k).m = -1 := by rw [← lx_lex]; exact hc
     apply AWp.seq; apply AWp.seq; apply AWp.region; refine Wq Qz.move ?_; refine Wq Qz.move ?_; refine Wq Qz.lenN ?_; refine Wq Qz.cmpT ?_; refine Wq Qz.move ?_; refine Ws ?_; refine Ws ?_; refine Ws ?_; refine Ws ?_; refine Wq Qz.pickT ?_; apply AWl.nil; apply AThen.normal; refine AWp.condT (ao rfl) ?_; apply AWp.skip; apply AThen.normal; apply AWp.block; apply AWp.seq; apply AWp.seq
     refine AWp.dr' (DrawOk.self (by kernel_rfl)) [[], [], [(21, 1)], [(20, 0), (22, 2)], [(23, 3)], [], [], [(26, 6)], [(25, 5), (27, 7)], [(28, 8)], [], [], [(30, 10), (31, 11)], [(32, 12)], [(33, 13)], [], [], [(35, 15), (36, 16)], [(37, 17)], [(38, 18)], [(34, 14), (39, 19)], [(40, 20)], [(29, 9), (41, 21)], [(24, 4), (42, 22)]] [[], [], [1], [0, 1, 2], [0, 1, 2, 3], [0, 1, 2, 3, 4], [0, 1, 2, 3, 4], [0, 1, 2, 3, 4, 6], [0, 1, 2, 3, 4, 5, 6, 7], [0, 1, 2, 3, 4, 5, 6, 7, 8], [0, 1, 2, 3, 4, 5, 6, 7, 8, 9], [0, 1, 2, 3, 4, 5, 6, 7, 8, 9], [0, 1, 2, 3, 4, 5, 6, 7, 8, 9, 10, 11], [0, 1, 2, 3, 4, 5, 6, 7, 8, 9, 10, 11, 12], [0, 1, 2, 3, 4, 5, 6, 7, 8, 9, 10, 11, 12, 13], [0, 1, 2, 3, 4, 5, 6, 7, 8, 9], [0, 1, 2, 3, 4, 5, 6, 7, 8, 9], [0, 1, 2, 3, 4, 5, 6, 7, 8, 9, 15, 16], [0, 1, 2, 3, 4, 5, 6, 7, 8, 9, 15, 16, 17], [0, 1, 2, 3, 4, 5, 6, 7, 8, 9, 15, 16, 17, 18], [0, 1, 2, 3, 4, 5, 6, 7, 8, 9, 10, 11, 12, 13, 14, 15, 16, 17, 18, 19], [0, 1, 2, 3, 4, 5, 6, 7, 8, 9, 10, 11, 12, 13, 14, 15, 16, 17, 18, 19, 20], [0, 1, 2, 3, 4, 5, 6, 7, 8, 9, 10, 11, 12, 13, 14, 15, 16, 17, 18, 19, 20, 21], [0, 1, 2, 3, 4, 5, 6, 7, 8, 9, 10, 11, 12, 13, 14, 15, 16, 17, 18, 19, 20, 21, 22]] rfl (by kernel_rfl) (by kernel_rfl) (by kernel_rfl) ?_
     refine Xq Qz.move ?_; refine Xq Qz.move ?_; refine Xq Qz.lenN ?_; refine Xq Qz.cmpF ?_; refine Xq Qz.move ?_; refine Xg Qz.move ?_; refine Xg Qz.move ?_; refine Xg Qz.lenN ?_; refine Xg Qz.cmpT ?_; refine Xg Qz.move ?_; refine Xg Qz.move ?_; refine Xg Qz.move ?_; refine Xg Qz.indexN ?_; refine Xg Qz.fldE ?_; refine Xg Qz.loadEf ?_; refine Xg Qz.move ?_; refine Xg Qz.move ?_; refine Xg Qz.indexN ?_; refine Xg Qz.fldE ?_; refine Xg Qz.loadEf ?_; refine Xg (Qz.call (RmCmp_abs (tAt P i).m (tAt Q k).m)) ?_; refine Xg Qz.cmpF ?_; refine Xg Qz.pickT ?_; refine Xq Qz.pickF ?_; refine ⟨_, rfl, ?_⟩
     apply AWl.nil; apply AThen.normal; refine AWp.condF (ao rfl) ?_; apply AWp.skip; apply AThen.normal; apply AWp.seq; apply AWp.seq
     refine AWp.dr' (DrawOk.self (by kernel_rfl)) [[], [], [(54, 1)], [(53, 0), (55, 2)], [(56, 3)], [], [], [(58, 5), (59, 6)], [(60, 7)], [(61, 8)], [], [], [(63, 10), (64, 11)], [(65, 12)], [(66, 13)], [(62, 9), (67, 14)], [(68, 15)], [(57, 4), (69, 16)]] [[], [], [1], [0, 1, 2], [0, 1, 2, 3], [0, 1, 2, 3, 4], [0, 1, 2, 3, 4], [0, 1, 2, 3, 4, 5, 6], [0, 1, 2, 3, 4, 5, 6, 7], [0, 1, 2, 3, 4, 5, 6, 7, 8], [0, 1, 2, 3, 4], [0, 1, 2, 3, 4], [0, 1, 2, 3, 4, 10, 11], [0, 1, 2, 3, 4, 10, 11, 12], [0, 1, 2, 3, 4, 10, 11, 12, 13], [0, 1, 2, 3, 4, 5, 6, 7, 8, 9, 10, 11, 12, 13, 14], [0, 1, 2, 3, 4, 5, 6, 7, 8, 9, 10, 11, 12, 13, 14, 15], [0, 1, 2, 3, 4, 5, 6, 7, 8, 9, 10, 11, 12, 13, 14, 15, 16]] rfl (by kernel_rfl) (by kernel_rfl) (by kernel_rfl) ?_
     refine Xq Qz.move ?_; refine Xq Qz.move ?_; refine Xq Qz.lenN ?_; refine Xq Qz.cmpF ?_; refine Xq Qz.move ?_; refine Xg Qz.move ?_; refine Xg Qz.move ?_; refine Xg Qz.indexN ?_; refine Xg Qz.fldE ?_; refine Xg Qz.loadEf ?_; refine Xg Qz.move ?_; refine Xg Qz.move ?_; refine Xg Qz.indexN ?_; refine Xg Qz.fldE ?_; refine Xg Qz.loadEf ?_; refine Xg (Qz.call (RmCmp_abs (tAt P i).m (tAt Q k).m)) ?_; refine Xg Qz.cmpT ?_; refine Xq Qz.pickF ?_; refine ⟨_, rfl, ?_⟩
     apply AWl.nil; apply AThen.normal; refine AWp.condT (ao rfl) ?_; apply AWp.seq; apply AWp.region; refine Wq Qz.move ?_; refine Wq Qz.move ?_; refine Wq Qz.move ?_; refine Wq Qz.indexN ?_; refine Wq Qz.loadEf ?_; (refine AWs.q rfl rfl ?_; refine ⟨_, Bq.slice1 (ao rfl) (tab_of rfl) (tab_of rfl) rfl rfl rfl rfl rfl, ?_⟩); (refine AWs.app (ao rfl) rfl rfl (tab_of rfl) (tab_of rfl) rfl rfl (by simp; omega) (by simp; omega) rfl (by first | ((repeat (first | exact PlainHp.nil | refine PlainHp.var ?_ | refine PlainHp.row ?_ | refine PlainHp.dead ?_)); done) | fail) rfl ?_); refine Wq Qz.assign ?_; apply AWl.nil; apply AThen.normal; apply AWp.seq; apply AWp.region; refine Wq Qz.move ?_; refine Wq Qz.succ ?_; refine Wq Qz.assign ?_; apply AWl.nil; apply AThen.normal; apply AWp.exit; apply AThen.exit; apply ABlock.hit
     refine ALoop.next ((P.length - i) + (Q.length - (k + 1))) (by omega) ⟨i, k + 1, R ++ [tAt Q k], by omega, by omega, ?_, by simp; omega, rfl, rfl⟩ ?_
     ·rw [mrg_lt hc] at heq
      rw [← heq, hdP]; simp
     ·exact AS.le_of (by refine FrLe.cons rfl (AVle.d rfl) ?_; refine FrLe.cons rfl (AVle.d rfl) ?_; refine FrLe.cons rfl (AVle.own rfl) ?_; refine FrLe.cons rfl (AVle.d rfl) ?_; refine FrLe.cons rfl (AVle.d rfl) ?_; exact FrLe.nil) (by refine HpLe.cons (OwLe.row (map_snoc tmC R (tAt Q k))) ?_; exact HpLe.nil)
    ·have hc' : lex8 (tAt P i).m (tAt Q k).m = 0 := by rw [← lx_lex]; exact hc
     by_cases hz : (tAt P i).c + (tAt Q k).c = 0
     ·have hsg := num_sign0.2 hz
      apply AWp.seq; apply AWp.seq; apply AWp.region; refine Wq Qz.move ?_; refine Wq Qz.move ?_; refine Wq Qz.lenN ?_; refine Wq Qz.cmpT ?_; refine Wq Qz.move ?_; refine Ws ?_; refine Ws ?_; refine Ws ?_; refine Ws ?_; refine Wq Qz.pickT ?_; apply AWl.nil; apply AThen.normal; refine AWp.condT (ao rfl) ?_; apply AWp.skip; apply AThen.normal; apply AWp.block; apply AWp.seq; apply AWp.seq
      refine AWp.dr' (DrawOk.self (by kernel_rfl)) [[], [], [(21, 1)], [(20, 0), (22, 2)], [(23, 3)], [], [], [(26, 6)], [(25, 5), (27, 7)], [(28, 8)], [], [], [(30, 10), (31, 11)], [(32, 12)], [(33, 13)], [], [], [(35, 15), (36, 16)], [(37, 17)], [(38, 18)], [(34, 14), (39, 19)], [(40, 20)], [(29, 9), (41, 21)], [(24, 4), (42, 22)]] [[], [], [1], [0, 1, 2], [0, 1, 2, 3], [0, 1, 2, 3, 4], [0, 1, 2, 3, 4], [0, 1, 2, 3, 4, 6], [0, 1, 2, 3, 4, 5, 6, 7], [0, 1, 2, 3, 4, 5, 6, 7, 8], [0, 1, 2, 3, 4, 5, 6, 7, 8, 9], [0, 1, 2, 3, 4, 5, 6, 7, 8, 9], [0, 1, 2, 3, 4, 5, 6, 7, 8, 9, 10, 11], [0, 1, 2, 3, 4, 5, 6, 7, 8, 9, 10, 11, 12], [0, 1, 2, 3, 4, 5, 6, 7, 8, 9, 10, 11, 12, 13], [0, 1, 2, 3, 4, 5, 6, 7, 8, 9], [0, 1, 2, 3, 4, 5, 6, 7, 8, 9], [0, 1, 2, 3, 4, 5, 6, 7, 8, 9, 15, 16], [0, 1, 2, 3, 4, 5, 6, 7, 8, 9, 15, 16, 17], [0, 1, 2, 3, 4, 5, 6, 7, 8, 9, 15, 16, 17, 18], [0, 1, 2, 3, 4, 5, 6, 7, 8, 9, 10, 11, 12, 13, 14, 15, 16, 17, 18, 19], [0, 1, 2, 3, 4, 5, 6, 7, 8, 9, 10, 11, 12, 13, 14, 15, 16, 17, 18, 19, 20], [0, 1, 2, 3, 4, 5, 6, 7, 8, 9, 10, 11, 12, 13, 14, 15, 16, 17, 18, 19, 20, 21], [0, 1, 2, 3, 4, 5, 6, 7, 8, 9, 10, 11, 12, 13, 14, 15, 16, 17, 18, 19, 20, 21, 22]] rfl (by kernel_rfl) (by kernel_rfl) (by kernel_rfl) ?_
      refine Xq Qz.move ?_; refine Xq Qz.move ?_; refine Xq Qz.lenN ?_; refine Xq Qz.cmpF ?_; refine Xq Qz.move ?_; refine Xg Qz.move ?_; refine Xg Qz.move ?_; refine Xg Qz.lenN ?_; refine Xg Qz.cmpT ?_; refine Xg Qz.move ?_; refine Xg Qz.move ?_; refine Xg Qz.move ?_; refine Xg Qz.indexN ?_; refine Xg Qz.fldE ?_; refine Xg Qz.loadEf ?_; refine Xg Qz.move ?_; refine Xg Qz.move ?_; refine Xg Qz.indexN ?_; refine Xg Qz.fldE ?_; refine Xg Qz.loadEf ?_; refine Xg (Qz.call (RmCmp_abs (tAt P i).m (tAt Q k).m)) ?_; refine Xg Qz.cmpF ?_; refine Xg Qz.pickT ?_; refine Xq Qz.pickF ?_; refine ⟨_, rfl, ?_⟩
      apply AWl.nil; apply AThen.normal; refine AWp.condF (ao rfl) ?_; apply AWp.skip; apply AThen.normal; apply AWp.seq; apply AWp.seq
      refine AWp.dr' (DrawOk.self (by kernel_rfl)) [[], [], [(54, 1)], [(53, 0), (55, 2)], [(56, 3)], [], [], [(58, 5), (59, 6)], [(60, 7)], [(61, 8)], [], [], [(63, 10), (64, 11)], [(65, 12)], [(66, 13)], [(62, 9), (67, 14)], [(68, 15)], [(57, 4), (69, 16)]] [[], [], [1], [0, 1, 2], [0, 1, 2, 3], [0, 1, 2, 3, 4], [0, 1, 2, 3, 4], [0, 1, 2, 3, 4, 5, 6], [0, 1, 2, 3, 4, 5, 6, 7], [0, 1, 2, 3, 4, 5, 6, 7, 8], [0, 1, 2, 3, 4], [0, 1, 2, 3, 4], [0, 1, 2, 3, 4, 10, 11], [0, 1, 2, 3, 4, 10, 11, 12], [0, 1, 2, 3, 4, 10, 11, 12, 13], [0, 1, 2, 3, 4, 5, 6, 7, 8, 9, 10, 11, 12, 13, 14], [0, 1, 2, 3, 4, 5, 6, 7, 8, 9, 10, 11, 12, 13, 14, 15], [0, 1, 2, 3, 4, 5, 6, 7, 8, 9, 10, 11, 12, 13, 14, 15, 16]] rfl (by kernel_rfl) (by kernel_rfl) (by kernel_rfl) ?_
      refine Xq Qz.move ?_; refine Xq Qz.move ?_; refine Xq Qz.lenN ?_; refine Xq Qz.cmpF ?_; refine Xq Qz.move ?_; refine Xg Qz.move ?_; refine Xg Qz.move ?_; refine Xg Qz.indexN ?_; refine Xg Qz.fldE ?_; refine Xg Qz.loadEf ?_; refine Xg Qz.move ?_; refine Xg Qz.move ?_; refine Xg Qz.indexN ?_; refine Xg Qz.fldE ?_; refine Xg Qz.loadEf ?_; refine Xg (Qz.call (RmCmp_abs (tAt P i).m (tAt Q k).m)) ?_; refine Xg Qz.cmpF ?_; refine Xq Qz.pickF ?_; refine ⟨_, rfl, ?_⟩
      apply AWl.nil; apply AThen.normal; refine AWp.condF (ao rfl) ?_; apply AWp.skip; apply AThen.normal; apply AWp.seq
      refine AWp.dr' (DrawOk.self (by kernel_rfl)) [[], [], [(80, 0), (81, 1)], [(82, 2)], [(83, 3)], [], [], [(85, 5), (86, 6)], [(87, 7)], [(88, 8)], [(84, 4), (89, 9)], []] [[], [], [0, 1], [0, 1, 2], [0, 1, 2, 3], [], [], [5, 6], [5, 6, 7], [5, 6, 7, 8], [0, 1, 2, 3, 4, 5, 6, 7, 8, 9], []] rfl (by kernel_rfl) (by kernel_rfl) (by kernel_rfl) ?_
      refine Xq Qz.move ?_; refine Xq Qz.move ?_; refine Xq Qz.indexN ?_; refine Xq Qz.fldE ?_; refine Xq Qz.ldE ?_; refine Xq Qz.move ?_; refine Xq Qz.move ?_; refine Xq Qz.indexN ?_; refine Xq Qz.fldE ?_; refine Xq Qz.ldE ?_; refine Xq (Qz.call (RAdd_abs (tAt P i).c (tAt Q k).c N M hs ht hNM)) ?_; refine Xn ?_; refine ⟨_, rfl, ?_⟩
      refine AWs.stF (ao rfl) (ao rfl) rfl (tab_of rfl) rfl rfl rfl ?_; apply AWl.nil; apply AThen.normal; apply AWp.seq; apply AWp.seq; apply AWp.region; refine Wq Qz.ldD ?_; refine Wq (Qz.call (RSign_abs ((tAt P i).c + (tAt Q k).c))) ?_; refine Wq Qz.cmpF ?_; apply AWl.nil; apply AThen.normal; refine AWp.condF (ao rfl) ?_; apply AWp.skip; apply AThen.normal; apply AWp.seq; apply AWp.region; refine Wq Qz.move ?_; refine Wq Qz.succ ?_; refine Wq Qz.assign ?_; apply AWl.nil; apply AThen.normal; apply AWp.region; refine Wq Qz.move ?_; refine Wq Qz.succ ?_; refine Wq Qz.assign ?_; apply AWl.nil; apply ABlock.normal
      refine ALoop.next ((P.length - (i + 1)) + (Q.length - (k + 1))) (by omega) ⟨i + 1, k + 1, R, by omega, by omega, ?_, by omega, rfl, rfl⟩ ?_
      ·rw [mrg_eq hc, if_pos hz] at heq
       exact heq
      ·exact AS.le_of (by refine FrLe.cons rfl (AVle.d rfl) ?_; refine FrLe.cons rfl (AVle.d rfl) ?_; refine FrLe.cons rfl (AVle.own rfl) ?_; refine FrLe.cons rfl (AVle.d rfl) ?_; refine FrLe.cons rfl (AVle.d rfl) ?_; exact FrLe.nil) (by refine HpLe.cons (OwLe.row rfl) ?_; exact HpLe.nil)
     ·have hsg : ((tAt P i).c + (tAt Q k).c).num.sign ≠ 0 := fun e => hz (num_sign0.1 e)
      apply AWp.seq; apply AWp.seq; apply AWp.region; refine Wq Qz.move ?_; refine Wq Qz.move ?_; refine Wq Qz.lenN ?_; refine Wq Qz.cmpT ?_; refine Wq Qz.move ?_; refine Ws ?_; refine Ws ?_; refine Ws ?_; refine Ws ?_; refine Wq Qz.pickT ?_; apply AWl.nil; apply AThen.normal; refine AWp.condT (ao rfl) ?_; apply AWp.skip; apply AThen.normal; apply AWp.block; apply AWp.seq; apply AWp.seq
      refine AWp.dr' (DrawOk.self (by kernel_rfl)) [[], [], [(21, 1)], [(20, 0), (22, 2)], [(23, 3)], [], [], [(26, 6)], [(25, 5), (27, 7)], [(28, 8)], [], [], [(30, 10), (31, 11)], [(32, 12)], [(33, 13)], [], [], [(35, 15), (36, 16)], [(37, 17)], [(38, 18)], [(34, 14), (39, 19)], [(40, 20)], [(29, 9), (41, 21)], [(24, 4), (42, 22)]] [[], [], [1], [0, 1, 2], [0, 1, 2, 3], [0, 1, 2, 3, 4], [0, 1, 2, 3, 4], [0, 1, 2, 3, 4, 6], [0, 1, 2, 3, 4, 5, 6, 7], [0, 1, 2, 3, 4, 5, 6, 7, 8], [0, 1, 2, 3, 4, 5, 6, 7, 8, 9], [0, 1, 2, 3, 4, 5, 6, 7, 8, 9], [0, 1, 2, 3, 4, 5, 6, 7, 8, 9, 10, 11], [0, 1, 2, 3, 4, 5, 6, 7, 8, 9, 10, 11, 12], [0, 1, 2, 3, 4, 5, 6, 7, 8, 9, 10, 11, 12, 13], [0, 1, 2, 3, 4, 5, 6, 7, 8, 9], [0, 1, 2, 3, 4, 5, 6, 7, 8, 9], [0, 1, 2, 3, 4, 5, 6, 7, 8, 9, 15, 16], [0, 1, 2, 3, 4, 5, 6, 7, 8, 9, 15, 16, 17], [0, 1, 2, 3, 4, 5, 6, 7, 8, 9, 15, 16, 17, 18], [0, 1, 2, 3, 4, 5, 6, 7, 8, 9, 10, 11, 12, 13, 14, 15, 16, 17, 18, 19], [0, 1, 2, 3, 4, 5, 6, 7, 8, 9, 10, 11, 12, 13, 14, 15, 16, 17, 18, 19, 20], [0, 1, 2, 3, 4, 5, 6, 7, 8, 9, 10, 11, 12, 13, 14, 15, 16, 17, 18, 19, 20, 21], [0, 1, 2, 3, 4, 5, 6, 7, 8, 9, 10, 11, 12, 13, 14, 15, 16, 17, 18, 19, 20, 21, 22]] rfl (by kernel_rfl) (by kernel_rfl) (by kernel_rfl) ?_
      refine Xq Qz.move ?_; refine Xq Qz.move ?_; refine Xq Qz.lenN ?_; refine Xq Qz.cmpF ?_; refine Xq Qz.move ?_; refine Xg Qz.move ?_; refine Xg Qz.move ?_; refine Xg Qz.lenN ?_; refine Xg Qz.cmpT ?_; refine Xg Qz.move ?_; refine Xg Qz.move ?_; refine Xg Qz.move ?_; refine Xg Qz.indexN ?_; refine Xg Qz.fldE ?_; refine Xg Qz.loadEf ?_; refine Xg Qz.move ?_; refine Xg Qz.move ?_; refine Xg Qz.indexN ?_; refine Xg Qz.fldE ?_; refine Xg Qz.loadEf ?_; refine Xg (Qz.call (RmCmp_abs (tAt P i).m (tAt Q k).m)) ?_; refine Xg Qz.cmpF ?_; refine Xg Qz.pickT ?_; refine Xq Qz.pickF ?_; refine ⟨_, rfl, ?_⟩
      apply AWl.nil; apply AThen.normal; refine AWp.condF (ao rfl) ?_; apply AWp.skip; apply AThen.normal; apply AWp.seq; apply AWp.seq
      refine AWp.dr' (DrawOk.self (by kernel_rfl)) [[], [], [(54, 1)], [(53, 0), (55, 2)], [(56, 3)], [], [], [(58, 5), (59, 6)], [(60, 7)], [(61, 8)], [], [], [(63, 10), (64, 11)], [(65, 12)], [(66, 13)], [(62, 9), (67, 14)], [(68, 15)], [(57, 4), (69, 16)]] [[], [], [1], [0, 1, 2], [0, 1, 2, 3], [0, 1, 2, 3, 4], [0, 1, 2, 3, 4], [0, 1, 2, 3, 4, 5, 6], [0, 1, 2, 3, 4, 5, 6, 7], [0, 1, 2, 3, 4, 5, 6, 7, 8], [0, 1, 2, 3, 4], [0, 1, 2, 3, 4], [0, 1, 2, 3, 4, 10, 11], [0, 1, 2, 3, 4, 10, 11, 12], [0, 1, 2, 3, 4, 10, 11, 12, 13], [0, 1, 2, 3, 4, 5, 6, 7, 8, 9, 10, 11, 12, 13, 14], [0, 1, 2, 3, 4, 5, 6, 7, 8, 9, 10, 11, 12, 13, 14, 15], [0, 1, 2, 3, 4, 5, 6, 7, 8, 9, 10, 11, 12, 13, 14, 15, 16]] rfl (by kernel_rfl) (by kernel_rfl) (by kernel_rfl) ?_
      refine Xq Qz.move ?_; refine Xq Qz.move ?_; refine Xq Qz.lenN ?_; refine Xq Qz.cmpF ?_; refine Xq Qz.move ?_; refine Xg Qz.move ?_; refine Xg Qz.move ?_; refine Xg Qz.indexN ?_; refine Xg Qz.fldE ?_; refine Xg Qz.loadEf ?_; refine Xg Qz.move ?_; refine Xg Qz.move ?_; refine Xg Qz.indexN ?_; refine Xg Qz.fldE ?_; refine Xg Qz.loadEf ?_; refine Xg (Qz.call (RmCmp_abs (tAt P i).m (tAt Q k).m)) ?_; refine Xg Qz.cmpF ?_; refine Xq Qz.pickF ?_; refine ⟨_, rfl, ?_⟩
      apply AWl.nil; apply AThen.normal; refine AWp.condF (ao rfl) ?_; apply AWp.skip; apply AThen.normal; apply AWp.seq
      refine AWp.dr' (DrawOk.self (by kernel_rfl)) [[], [], [(80, 0), (81, 1)], [(82, 2)], [(83, 3)], [], [], [(85, 5), (86, 6)], [(87, 7)], [(88, 8)], [(84, 4), (89, 9)], []] [[], [], [0, 1], [0, 1, 2], [0, 1, 2, 3], [], [], [5, 6], [5, 6, 7], [5, 6, 7, 8], [0, 1, 2, 3, 4, 5, 6, 7, 8, 9], []] rfl (by kernel_rfl) (by kernel_rfl) (by kernel_rfl) ?_
      refine Xq Qz.move ?_; refine Xq Qz.move ?_; refine Xq Qz.indexN ?_; refine Xq Qz.fldE ?_; refine Xq Qz.ldE ?_; refine Xq Qz.move ?_; refine Xq Qz.move ?_; refine Xq Qz.indexN ?_; refine Xq Qz.fldE ?_; refine Xq Qz.ldE ?_; refine Xq (Qz.call (RAdd_abs (tAt P i).c (tAt Q k).c N M hs ht hNM)) ?_; refine Xn ?_; refine ⟨_, rfl, ?_⟩
      refine AWs.stF (ao rfl) (ao rfl) rfl (tab_of rfl) rfl rfl rfl ?_; apply AWl.nil; apply AThen.normal; apply AWp.seq; apply AWp.seq; apply AWp.region; refine Wq Qz.ldD ?_; refine Wq (Qz.call (RSign_abs ((tAt P i).c + (tAt Q k).c))) ?_; refine Wq Qz.cmpT ?_; apply AWl.nil; apply AThen.normal; refine AWp.condT (ao rfl) ?_
      refine AWp.dr' (DrawOk.self (by kernel_rfl)) [[], [], [], [], [(96, 2), (97, 3)], [(98, 4)], [(99, 5)], [(95, 1), (100, 6)], [(101, 7)]] [[], [], [], [], [2, 3], [2, 3, 4], [2, 3, 4, 5], [1, 2, 3, 4, 5, 6], [1, 2, 3, 4, 5, 6, 7]] rfl (by kernel_rfl) (by kernel_rfl) (by kernel_rfl) ?_
      refine Xq Qz.move ?_; refine Xq Qz.ldD ?_; refine Xq Qz.move ?_; refine Xq Qz.move ?_; refine Xq Qz.indexN ?_; refine Xq Qz.fldE ?_; refine Xq Qz.loadEf ?_; (refine Hq rfl ?_; refine Bq.build (tab_of rfl) rfl rfl rfl ?_; (repeat ((first | refine ⟨_, PartOk.ag (ah rfl), ?_⟩ | refine ⟨_, PartOk.one rfl (by first | exact One.ex_ rfl | exact One.sl | exact One.ep), ?_⟩); refine ⟨_, rfl, ?_⟩)); refine ⟨_, rfl, ?_⟩; refine ⟨_, rfl, ?_⟩); (refine ⟨_, HStep.q rfl (Bq.slice1 (ah rfl) (tab_of rfl) (tab_of rfl) rfl rfl rfl rfl rfl), ?_⟩; refine ⟨_, rfl, ?_⟩); refine ⟨_, rfl, ?_⟩
      (refine AWs.app (ao rfl) rfl rfl (tab_of rfl) (tab_of rfl) rfl rfl (by simp; omega) (by simp; omega) rfl (by first | ((repeat (first | exact PlainHp.nil | refine PlainHp.var ?_ | refine PlainHp.row ?_ | refine PlainHp.dead ?_)); done) | fail) rfl ?_); refine Wq Qz.assign ?_; apply AWl.nil; apply AThen.normal; apply AWp.seq; apply AWp.region; refine Wq Qz.move ?_; refine Wq Qz.succ ?_; refine Wq Qz.assign ?_; apply AWl.nil; apply AThen.normal; apply AWp.region; refine Wq Qz.move ?_; refine Wq Qz.succ ?_; refine Wq Qz.assign ?_; apply AWl.nil; apply ABlock.normal
      refine ALoop.next ((P.length - (i + 1)) + (Q.length - (k + 1))) (by omega) ⟨i + 1, k + 1, R ++ [⟨(tAt P i).c + (tAt Q k).c, (tAt P i).m⟩], by omega, by omega, ?_, by simp; omega, rfl, rfl⟩ ?_
      ·rw [mrg_eq hc, if_neg hz] at heq
       rw [← heq]; simp
      ·exact AS.le_of (by refine FrLe.cons rfl (AVle.d rfl) ?_; refine FrLe.cons rfl (AVle.d rfl) ?_; refine FrLe.cons rfl (AVle.own rfl) ?_; refine FrLe.cons rfl (AVle.d rfl) ?_; refine FrLe.cons rfl (AVle.d rfl) ?_; exact FrLe.nil) (by refine HpLe.cons (OwLe.row (map_snoc tmC R ⟨(tAt P i).c + (tAt Q k).c, (tAt P i).m⟩)) ?_; exact HpLe.nil)
    ·have hc' : lex8 (tAt P i).m (tAt Q k).m = 1 := by rw [← lx_lex]; exact hc
     apply AWp.seq; apply AWp.seq; apply AWp.region; refine Wq Qz.move ?_; refine Wq Qz.move ?_; refine Wq Qz.lenN ?_; refine Wq Qz.cmpT ?_; refine Wq Qz.move ?_; refine Ws ?_; refine Ws ?_; refine Ws ?_; refine Ws ?_; refine Wq Qz.pickT ?_; apply AWl.nil; apply AThen.normal; refine AWp.condT (ao rfl) ?_; apply AWp.skip; apply AThen.normal; apply AWp.block; apply AWp.seq; apply AWp.seq
     refine AWp.dr' (DrawOk.self (by kernel_rfl)) [[], [], [(21, 1)], [(20, 0), (22, 2)], [(23, 3)], [], [], [(26, 6)], [(25, 5), (27, 7)], [(28, 8)], [], [], [(30, 10), (31, 11)], [(32, 12)], [(33, 13)], [], [], [(35, 15), (36, 16)], [(37, 17)], [(38, 18)], [(34, 14), (39, 19)], [(40, 20)], [(29, 9), (41, 21)], [(24, 4), (42, 22)]] [[], [], [1], [0, 1, 2], [0, 1, 2, 3], [0, 1, 2, 3, 4], [0, 1, 2, 3, 4], [0, 1, 2, 3, 4, 6], [0, 1, 2, 3, 4, 5, 6, 7], [0, 1, 2, 3, 4, 5, 6, 7, 8], [0, 1, 2, 3, 4, 5, 6, 7, 8, 9], [0, 1, 2, 3, 4, 5, 6, 7, 8, 9], [0, 1, 2, 3, 4, 5, 6, 7, 8, 9, 10, 11], [0, 1, 2, 3, 4, 5, 6, 7, 8, 9, 10, 11, 12], [0, 1, 2, 3, 4, 5, 6, 7, 8, 9, 10, 11, 12, 13], [0, 1, 2, 3, 4, 5, 6, 7, 8, 9], [0, 1, 2, 3, 4, 5, 6, 7, 8, 9], [0, 1, 2, 3, 4, 5, 6, 7, 8, 9, 15, 16], [0, 1, 2, 3, 4, 5, 6, 7, 8, 9, 15, 16, 17], [0, 1, 2, 3, 4, 5, 6, 7, 8, 9, 15, 16, 17, 18], [0, 1, 2, 3, 4, 5, 6, 7, 8, 9, 10, 11, 12, 13, 14, 15, 16, 17, 18, 19], [0, 1, 2, 3, 4, 5, 6, 7, 8, 9, 10, 11, 12, 13, 14, 15, 16, 17, 18, 19, 20], [0, 1, 2, 3, 4, 5, 6, 7, 8, 9, 10, 11, 12, 13, 14, 15, 16, 17, 18, 19, 20, 21], [0, 1, 2, 3, 4, 5, 6, 7, 8, 9, 10, 11, 12, 13, 14, 15, 16, 17, 18, 19, 20, 21, 22]] rfl (by kernel_rfl) (by kernel_rfl) (by kernel_rfl) ?_
     refine Xq Qz.move ?_; refine Xq Qz.move ?_; refine Xq Qz.lenN ?_; refine Xq Qz.cmpF ?_; refine Xq Qz.move ?_; refine Xg Qz.move ?_; refine Xg Qz.move ?_; refine Xg Qz.lenN ?_; refine Xg Qz.cmpT ?_; refine Xg Qz.move ?_; refine Xg Qz.move ?_; refine Xg Qz.move ?_; refine Xg Qz.indexN ?_; refine Xg Qz.fldE ?_; refine Xg Qz.loadEf ?_; refine Xg Qz.move ?_; refine Xg Qz.move ?_; refine Xg Qz.indexN ?_; refine Xg Qz.fldE ?_; refine Xg Qz.loadEf ?_; refine Xg (Qz.call (RmCmp_abs (tAt P i).m (tAt Q k).m)) ?_; refine Xg Qz.cmpT ?_; refine Xg Qz.pickT ?_; refine Xq Qz.pickF ?_; refine ⟨_, rfl, ?_⟩
     apply AWl.nil; apply AThen.normal; refine AWp.condT (ao rfl) ?_; apply AWp.seq; apply AWp.region; refine Wq Qz.move ?_; refine Wq Qz.move ?_; refine Wq Qz.move ?_; refine Wq Qz.indexN ?_; refine Wq Qz.loadEf ?_; (refine AWs.q rfl rfl ?_; refine ⟨_, Bq.slice1 (ao rfl) (tab_of rfl) (tab_of rfl) rfl rfl rfl rfl rfl, ?_⟩); (refine AWs.app (ao rfl) rfl rfl (tab_of rfl) (tab_of rfl) rfl rfl (by simp; omega) (by simp; omega) rfl (by first | ((repeat (first | exact PlainHp.nil | refine PlainHp.var ?_ | refine PlainHp.row ?_ | refine PlainHp.dead ?_)); done) | fail) rfl ?_); refine Wq Qz.assign ?_; apply AWl.nil; apply AThen.normal; apply AWp.seq; apply AWp.region; refine Wq Qz.move ?_; refine Wq Qz.succ ?_; refine Wq Qz.assign ?_; apply AWl.nil; apply AThen.normal; apply AWp.exit; apply AThen.exit; apply ABlock.hit
     refine ALoop.next ((P.length - (i + 1)) + (Q.length - k)) (by omega) ⟨i + 1, k, R ++ [tAt P i], by omega, by omega, ?_, by simp; omega, rfl, rfl⟩ ?_
     ·rw [mrg_gt hc] at heq
      rw [← heq, hdQ]; simp
     ·exact AS.le_of (by refine FrLe.cons rfl (AVle.d rfl) ?_; refine FrLe.cons rfl (AVle.d rfl) ?_; refine FrLe.cons rfl (AVle.own rfl) ?_; refine FrLe.cons rfl (AVle.d rfl) ?_; refine FrLe.cons rfl (AVle.d rfl) ?_; exact FrLe.nil) (by refine HpLe.cons (OwLe.row (map_snoc tmC R (tAt P i))) ?_; exact HpLe.nil)
   ·apply AWp.seq; apply AWp.seq; apply AWp.region; refine Wq Qz.move ?_; refine Wq Qz.move ?_; refine Wq Qz.lenN ?_; refine Wq Qz.cmpT ?_; refine Wq Qz.move ?_; refine Ws ?_; refine Ws ?_; refine Ws ?_; refine Ws ?_; refine Wq Qz.pickT ?_; apply AWl.nil; apply AThen.normal; refine AWp.condT (ao rfl) ?_; apply AWp.skip; apply AThen.normal; apply AWp.block; apply AWp.seq; apply AWp.seq
    refine AWp.dr' (DrawOk.self (by kernel_rfl)) [[], [], [(21, 1)], [(20, 0), (22, 2)], [(23, 3)], [], [], [(26, 6)], [(25, 5), (27, 7)], [(28, 8)], [], [], [(30, 10), (31, 11)], [(32, 12)], [(33, 13)], [], [], [(35, 15), (36, 16)], [(37, 17)], [(38, 18)], [(34, 14), (39, 19)], [(40, 20)], [(29, 9), (41, 21)], [(24, 4), (42, 22)]] [[], [], [1], [0, 1, 2], [0, 1, 2, 3], [0, 1, 2, 3, 4], [0, 1, 2, 3, 4], [0, 1, 2, 3, 4, 6], [0, 1, 2, 3, 4, 5, 6, 7], [0, 1, 2, 3, 4, 5, 6, 7, 8], [0, 1, 2, 3, 4, 5, 6, 7, 8, 9], [0, 1, 2, 3, 4, 5, 6, 7, 8, 9], [0, 1, 2, 3, 4, 5, 6, 7, 8, 9, 10, 11], [0, 1, 2, 3, 4, 5, 6, 7, 8, 9, 10, 11, 12], [0, 1, 2, 3, 4, 5, 6, 7, 8, 9, 10, 11, 12, 13], [0, 1, 2, 3, 4, 5, 6, 7, 8, 9], [0, 1, 2, 3, 4, 5, 6, 7, 8, 9], [0, 1, 2, 3, 4, 5, 6, 7, 8, 9, 15, 16], [0, 1, 2, 3, 4, 5, 6, 7, 8, 9, 15, 16, 17], [0, 1, 2, 3, 4, 5, 6, 7, 8, 9, 15, 16, 17, 18], [0, 1, 2, 3, 4, 5, 6, 7, 8, 9, 10, 11, 12, 13, 14, 15, 16, 17, 18, 19], [0, 1, 2, 3, 4, 5, 6, 7, 8, 9, 10, 11, 12, 13, 14, 15, 16, 17, 18, 19, 20], [0, 1, 2, 3, 4, 5, 6, 7, 8, 9, 10, 11, 12, 13, 14, 15, 16, 17, 18, 19, 20, 21], [0, 1, 2, 3, 4, 5, 6, 7, 8, 9, 10, 11, 12, 13, 14, 15, 16, 17, 18, 19, 20, 21, 22]] rfl (by kernel_rfl) (by kernel_rfl) (by kernel_rfl) ?_
    refine Xq Qz.move ?_; refine Xq Qz.move ?_; refine Xq Qz.lenN ?_; refine Xq Qz.cmpT ?_; refine Xq Qz.move ?_; refine Xs ?_; refine Xs ?_; refine Xs ?_; refine Xs ?_; refine Xs ?_; refine Xs ?_; refine Xs ?_; refine Xs ?_; refine Xs ?_; refine Xs ?_; refine Xs ?_; refine Xs ?_; refine Xs ?_; refine Xs ?_; refine Xs ?_; refine Xs ?_; refine Xs ?_; refine Xs ?_; refine Xq Qz.pickT ?_; refine ⟨_, rfl, ?_⟩
    apply AWl.nil; apply AThen.normal; refine AWp.condT (ao rfl) ?_; apply AWp.seq; apply AWp.region; refine Wq Qz.move ?_; refine Wq Qz.move ?_; refine Wq Qz.move ?_; refine Wq Qz.indexN ?_; refine Wq Qz.loadEf ?_; (refine AWs.q rfl rfl ?_; refine ⟨_, Bq.slice1 (ao rfl) (tab_of rfl) (tab_of rfl) rfl rfl rfl rfl rfl, ?_⟩); (refine AWs.app (ao rfl) rfl rfl (tab_of rfl) (tab_of rfl) rfl rfl (by simp; omega) (by simp; omega) rfl (by first | ((repeat (first | exact PlainHp.nil | refine PlainHp.var ?_ | refine PlainHp.row ?_ | refine PlainHp.dead ?_)); done) | fail) rfl ?_); refine Wq Qz.assign ?_; apply AWl.nil; apply AThen.normal; apply AWp.seq; apply AWp.region; refine Wq Qz.move ?_; refine Wq Qz.succ ?_; refine Wq Qz.assign ?_; apply AWl.nil; apply AThen.normal; apply AWp.exit; apply AThen.exit; apply ABlock.hit
    refine ALoop.next ((P.length - (i + 1)) + (Q.length - k)) (by omega) ⟨i + 1, k, R ++ [tAt P i], by omega, by omega, ?_, by simp; omega, rfl, rfl⟩ ?_
    ·have hq : Q.drop k = [] := List.drop_eq_nil_of_le (by omega)
     rw [hdP, hq, mrg_nil] at heq
     rw [← heq, hq, mrg_nil]; simp
    ·exact AS.le_of (by refine FrLe.cons rfl (AVle.d rfl) ?_; refine FrLe.cons rfl (AVle.d rfl) ?_; refine FrLe.cons rfl (AVle.own rfl) ?_; refine FrLe.cons rfl (AVle.d rfl) ?_; refine FrLe.cons rfl (AVle.d rfl) ?_; exact FrLe.nil) (by refine HpLe.cons (OwLe.row (map_snoc tmC R (tAt P i))) ?_; exact HpLe.nil)
  ·have hp : P.drop i = [] := List.drop_eq_nil_of_le (by omega)
   by_cases hkq : k < Q.length
   ·have hdQ := drop_tAt hkq
    apply AWp.seq; apply AWp.seq; apply AWp.region; refine Wq Qz.move ?_; refine Wq Qz.move ?_; refine Wq Qz.lenN ?_; refine Wq Qz.cmpF ?_; refine Wq Qz.move ?_; refine Wg Qz.move ?_; refine Wg Qz.move ?_; refine Wg Qz.lenN ?_; refine Wg Qz.cmpT ?_; refine Wq Qz.pickF ?_; apply AWl.nil; apply AThen.normal; refine AWp.condT (ao rfl) ?_; apply AWp.skip; apply AThen.normal; apply AWp.block; apply AWp.seq; apply AWp.seq
    refine AWp.dr' (DrawOk.self (by kernel_rfl)) [[], [], [(21, 1)], [(20, 0), (22, 2)], [(23, 3)], [], [], [(26, 6)], [(25, 5), (27, 7)], [(28, 8)], [], [], [(30, 10), (31, 11)], [(32, 12)], [(33, 13)], [], [], [(35, 15), (36, 16)], [(37, 17)], [(38, 18)], [(34, 14), (39, 19)], [(40, 20)], [(29, 9), (41, 21)], [(24, 4), (42, 22)]] [[], [], [1], [0, 1, 2], [0, 1, 2, 3], [0, 1, 2, 3, 4], [0, 1, 2, 3, 4], [0, 1, 2, 3, 4, 6], [0, 1, 2, 3, 4, 5, 6, 7], [0, 1, 2, 3, 4, 5, 6, 7, 8], [0, 1, 2, 3, 4, 5, 6, 7, 8, 9], [0, 1, 2, 3, 4, 5, 6, 7, 8, 9], [0, 1, 2, 3, 4, 5, 6, 7, 8, 9, 10, 11], [0, 1, 2, 3, 4, 5, 6, 7, 8, 9, 10, 11, 12], [0, 1, 2, 3, 4, 5, 6, 7, 8, 9, 10, 11, 12, 13], [0, 1, 2, 3, 4, 5, 6, 7, 8, 9], [0, 1, 2, 3, 4, 5, 6, 7, 8, 9], [0, 1, 2, 3, 4, 5, 6, 7, 8, 9, 15, 16], [0, 1, 2, 3, 4, 5, 6, 7, 8, 9, 15, 16, 17], [0, 1, 2, 3, 4, 5, 6, 7, 8, 9, 15, 16, 17, 18], [0, 1, 2, 3, 4, 5, 6, 7, 8, 9, 10, 11, 12, 13, 14, 15, 16, 17, 18, 19], [0, 1, 2, 3, 4, 5, 6, 7, 8, 9, 10, 11, 12, 13, 14, 15, 16, 17, 18, 19, 20], [0, 1, 2, 3, 4, 5, 6, 7, 8, 9, 10, 11, 12, 13, 14, 15, 16, 17, 18, 19, 20, 21], [0, 1, 2, 3, 4, 5, 6, 7, 8, 9, 10, 11, 12, 13, 14, 15, 16, 17, 18, 19, 20, 21, 22]] rfl (by kernel_rfl) (by kernel_rfl) (by kernel_rfl) ?_
    refine Xq Qz.move ?_; refine Xq Qz.move ?_; refine Xq Qz.lenN ?_; refine Xq Qz.cmpF ?_; refine Xq Qz.move ?_; refine Xg Qz.move ?_; refine Xg Qz.move ?_; refine Xg Qz.lenN ?_; refine Xg Qz.cmpF ?_; refine Xg Qz.move ?_; refine Xs ?_; refine Xs ?_; refine Xs ?_; refine Xs ?_; refine Xs ?_; refine Xs ?_; refine Xs ?_; refine Xs ?_; refine Xs ?_; refine Xs ?_; refine Xs ?_; refine Xs ?_; refine Xg Qz.pickF ?_; refine Xq Qz.pickF ?_; refine ⟨_, rfl, ?_⟩
    apply AWl.nil; apply AThen.normal; refine AWp.condF (ao rfl) ?_; apply AWp.skip; apply AThen.normal; apply AWp.seq; apply AWp.seq
    refine AWp.dr' (DrawOk.self (by kernel_rfl)) [[], [], [(54, 1)], [(53, 0), (55, 2)], [(56, 3)], [], [], [(58, 5), (59, 6)], [(60, 7)], [(61, 8)], [], [], [(63, 10), (64, 11)], [(65, 12)], [(66, 13)], [(62, 9), (67, 14)], [(68, 15)], [(57, 4), (69, 16)]] [[], [], [1], [0, 1, 2], [0, 1, 2, 3], [0, 1, 2, 3, 4], [0, 1, 2, 3, 4], [0, 1, 2, 3, 4, 5, 6], [0, 1, 2, 3, 4, 5, 6, 7], [0, 1, 2, 3, 4, 5, 6, 7, 8], [0, 1, 2, 3, 4], [0, 1, 2, 3, 4], [0, 1, 2, 3, 4, 10, 11], [0, 1, 2, 3, 4, 10, 11, 12], [0, 1, 2, 3, 4, 10, 11, 12, 13], [0, 1, 2, 3, 4, 5, 6, 7, 8, 9, 10, 11, 12, 13, 14], [0, 1, 2, 3, 4, 5, 6, 7, 8, 9, 10, 11, 12, 13, 14, 15], [0, 1, 2, 3, 4, 5, 6, 7, 8, 9, 10, 11, 12, 13, 14, 15, 16]] rfl (by kernel_rfl) (by kernel_rfl) (by kernel_rfl) ?_
    refine Xq Qz.move ?_; refine Xq Qz.move ?_; refine Xq Qz.lenN ?_; refine Xq Qz.cmpT ?_; refine Xq Qz.move ?_; refine Xs ?_; refine Xs ?_; refine Xs ?_; refine Xs ?_; refine Xs ?_; refine Xs ?_; refine Xs ?_; refine Xs ?_; refine Xs ?_; refine Xs ?_; refine Xs ?_; refine Xs ?_; refine Xq Qz.pickT ?_; refine ⟨_, rfl, ?_⟩
    apply AWl.nil; apply AThen.normal; refine AWp.condT (ao rfl) ?_; apply AWp.seq; apply AWp.region; refine Wq Qz.move ?_; refine Wq Qz.move ?_; refine Wq Qz.move ?_; refine Wq Qz.indexN ?_; refine Wq Qz.loadEf ?_; (refine AWs.q rfl rfl ?_; refine ⟨_, Bq.slice1 (ao rfl) (tab_of rfl) (tab_of rfl) rfl rfl rfl rfl rfl, ?_⟩); (refine AWs.app (ao rfl) rfl rfl (tab_of rfl) (tab_of rfl) rfl rfl (by simp; omega) (by simp; omega) rfl (by first | ((repeat (first | exact PlainHp.nil | refine PlainHp.var ?_ | refine PlainHp.row ?_ | refine PlainHp.dead ?_)); done) | fail) rfl ?_); refine Wq Qz.assign ?_; apply AWl.nil; apply AThen.normal; apply AWp.seq; apply AWp.region; refine Wq Qz.move ?_; refine Wq Qz.succ ?_; refine Wq Qz.assign ?_; apply AWl.nil; apply AThen.normal; apply AWp.exit; apply AThen.exit; apply ABlock.hit
    refine ALoop.next ((P.length - i) + (Q.length - (k + 1))) (by omega) ⟨i, k + 1, R ++ [tAt Q k], by omega, by omega, ?_, by simp; omega, rfl, rfl⟩ ?_
    ·rw [hdQ, hp, nil_mrg] at heq
     rw [← heq, hp, nil_mrg]; simp
    ·exact AS.le_of (by refine FrLe.cons rfl (AVle.d rfl) ?_; refine FrLe.cons rfl (AVle.d rfl) ?_; refine FrLe.cons rfl (AVle.own rfl) ?_; refine FrLe.cons rfl (AVle.d rfl) ?_; refine FrLe.cons rfl (AVle.d rfl) ?_; exact FrLe.nil) (by refine HpLe.cons (OwLe.row (map_snoc tmC R (tAt Q k))) ?_; exact HpLe.nil)
   ·apply AWp.seq; apply AWp.seq; apply AWp.region; refine Wq Qz.move ?_; refine Wq Qz.move ?_; refine Wq Qz.lenN ?_; refine Wq Qz.cmpF ?_; refine Wq Qz.move ?_; refine Wg Qz.move ?_; refine Wg Qz.move ?_; refine Wg Qz.lenN ?_; refine Wg Qz.cmpF ?_; refine Wq Qz.pickF ?_; apply AWl.nil; apply AThen.normal; refine AWp.condF (ao rfl) ?_; apply AWp.exit; apply AThen.exit; apply ALoop.exit; apply ABlock.hit; apply AThen.normal; apply AWp.seq; apply AWp.region; refine Wq Qz.move ?_; refine Wq Qz.assign ?_; apply AWl.nil; apply AThen.normal; apply AWp.ret
    have hq : Q.drop k = [] := List.drop_eq_nil_of_le (by omega)
    exact Fin.ret (Rets.of1 (ResV.tmp rfl rfl) (D.le.of_eq (by rw [← heq, hp, hq, nil_mrg, List.append_nil]; rfl)))
end Go.Proofs.YteicdddphdomkaaGreat
namespace Go.Proofs.YteicdddphdomkaaGreat
open Go.RowKit
set_option maxRecDepth 100000
theorem RTimes0_abs (c : Rat) (m : Nat → Int) (P : List Tm) (hc : c = 0) : Abs Tryz.prog 52 [agD (ratC c), agD (monC m), polD P] (tupD [polD [], ex (.int .i64 0)]) := by
 have hs := num_sign0.2 hc
 refine Abs.intro Tryz.func52 rfl (callFunc_run Tryz.func52 (by kernel_rfl) (by kernel_rfl)) rfl fun s0 => ?_
 rw [Tryz.ntmps52]
 apply AWp.seq; apply AWp.region; refine AWs.bx (ao rfl) rfl rfl rfl rfl ?_; refine AWs.bx (ao rfl) rfl rfl rfl rfl ?_; refine Wq Qz.assign ?_; refine Wq Qz.assign ?_; apply AWl.nil; apply AThen.normal; apply AWp.seq; apply AWp.region; refine AWs.b0 (tab_of rfl) (tab_of rfl) rfl rfl rfl rfl rfl ?_; refine Wq Qz.assign ?_; apply AWl.nil; apply AThen.normal; apply AWp.seq; apply AWp.seq; apply AWp.region; refine Wq Qz.ldD ?_; refine Wq (Qz.call (RSign_abs c)) ?_; refine Wq Qz.cmpT ?_; apply AWl.nil; apply AThen.normal; refine AWp.condT (ao rfl) ?_; apply AWp.seq; apply AWp.region; refine Wq Qz.assign ?_; refine Wq Qz.assign ?_; apply AWl.nil; apply AThen.normal; apply AWp.ret; apply AThen.ret
 exact Fin.ret (Rets.of2 (ResV.tmp rfl rfl) (ResV.tmp rfl rfl) (D.le.tup2 (D.le_nilP) (D.le.refl _)))
theorem RTimes_abs (c : Rat) (m : Nat → Int) (P : List Tm) (N M : Nat) (hc : c ≠ 0) (hcs : RSz c N) (hm : In8 m 0 65535) (hP : PSz P M) (hPi : PIn P 0 65535) (hmP : ∀ t ∈ P, In8 (add8 m t.m) 0 65535) (hn : P.length ≤ 100000) (hNM : N + M ≤ 4398046511103) : Abs Tryz.prog 52 [agD (ratC c), agD (monC m), polD P] (tupD [polD (tms c m P), ex (.int .i64 0)]) := by
 have hs : c.num.sign ≠ 0 := fun e => hc (num_sign0.1 e)
 refine Abs.intro Tryz.func52 rfl (callFunc_run Tryz.func52 (by kernel_rfl) (by kernel_rfl)) rfl fun s0 => ?_
 rw [Tryz.ntmps52]
 apply AWp.seq; apply AWp.region; refine AWs.bx (ao rfl) rfl rfl rfl rfl ?_; refine AWs.bx (ao rfl) rfl rfl rfl rfl ?_; refine Wq Qz.assign ?_; refine Wq Qz.assign ?_; apply AWl.nil; apply AThen.normal; apply AWp.seq; apply AWp.region; refine AWs.b0 (tab_of rfl) (tab_of rfl) rfl rfl rfl rfl rfl ?_; refine Wq Qz.assign ?_; apply AWl.nil; apply AThen.normal; apply AWp.seq; apply AWp.seq; apply AWp.region; refine Wq Qz.ldD ?_; refine Wq (Qz.call (RSign_abs c)) ?_; refine Wq Qz.cmpF ?_; apply AWl.nil; apply AThen.normal; refine AWp.condF (ao rfl) ?_; apply AWp.skip; apply AThen.normal; apply AWp.seq; apply AWp.seq; apply AWp.region; refine Wq Qz.assign ?_; apply AWl.nil; apply AThen.normal; apply AWp.block
 refine AWp.loop (fun mz σ => ∃ k, k ≤ P.length ∧ mz = P.length - k ∧ σ = ⟨[(2, .d (polD P)), (3, .ptr 0 0), (4, .ptr 1 0), (8, .own 2), (9, .d (ex (.int .i64 (k : Nat))))], [.var 29 ((ratC c).map .d), .var 31 ((monC m).map .d), .row 33 12 ((tms c m (P.take k)).map tmC)]⟩) ?le ⟨0, by omega, rfl, rfl⟩ ?round
 case le => exact AS.le_of (by refine FrLe.cons rfl (AVle.d rfl) ?_; refine FrLe.cons rfl (AVle.ptr rfl) ?_; refine FrLe.cons rfl (AVle.ptr rfl) ?_; refine FrLe.cons rfl (AVle.own rfl) ?_; refine FrLe.cons rfl (AVle.d rfl) ?_; exact FrLe.nil) (by refine HpLe.cons (OwLe.varD rfl) ?_; refine HpLe.cons (OwLe.varD rfl) ?_; refine HpLe.cons (OwLe.row rfl) ?_; exact HpLe.nil)
 case round =>
  rintro mz _ ⟨k, hk, rfl, rfl⟩
  by_cases hlt : k < P.length
  ·have ht := tAt_mem hlt
   have htk := take_tAt hlt
   apply AWp.seq; apply AWp.seq; apply AWp.region; refine Wq Qz.move ?_; refine Wq Qz.move ?_; refine Wq Qz.lenN ?_; refine Wq Qz.cmpT ?_; apply AWl.nil; apply AThen.normal; refine AWp.condT (ao rfl) ?_; apply AWp.skip; apply AThen.normal; apply AWp.seq; apply AWp.block; apply AWp.seq
   refine AWp.dr' (DrawOk.float (e := 9) (by kernel_rfl) (AddE.keep (AddE.keep (AddE.keep (AddE.keep (AddE.keep (AddE.keep (AddE.keep (AddE.keep (AddE.keep (AddE.keep (AddE.keep (AddE.add (AddE.keep AddE.nil))))))))))))) (by kernel_rfl)) [[], [], [], [(24, 1), (25, 2)], [(26, 3)], [(27, 4)], [(23, 0), (28, 5)], [(29, 6)], [(22, 7)], [(22, 7)], []] [[], [], [], [1, 2], [1, 2, 3], [1, 2, 3, 4], [0, 1, 2, 3, 4, 5], [0, 1, 2, 3, 4, 5, 6], [0, 1, 2, 3, 4, 5, 6, 7], [0, 1, 2, 3, 4, 5, 6, 7], []] rfl (by kernel_rfl) (by kernel_rfl) (by kernel_rfl) ?_
   refine Xq Qz.ldD ?_; refine Xq Qz.move ?_; refine Xq Qz.move ?_; refine Xq Qz.indexN ?_; refine Xq Qz.fldE ?_; refine Xq Qz.loadEf ?_; refine Xq (Qz.call (RmMul_abs m (tAt P k).m hm (hPi _ ht) (hmP _ ht))) ?_; refine Xq Qz.move ?_; refine Xq Qz.ext ?_; refine Xq Qz.ext ?_; refine Xn ?_; refine ⟨_, rfl, ?_⟩
   refine AWs.stF (ao rfl) (ao rfl) rfl (tab_of rfl) rfl rfl rfl ?_; refine Wq Qz.assign ?_; apply AWl.nil; apply OnlyN.mk'; apply AThen.normal; apply AWp.seq; apply AWp.seq; apply AWp.region; refine Wq Qz.move ?_; refine Wq Qz.cmpF ?_; apply AWl.nil; apply AThen.normal; refine AWp.condF (ao rfl) ?_; apply AWp.skip; apply AThen.normal
   refine AWp.dr' (DrawOk.self (by kernel_rfl)) [[], [], [], [], [(36, 2), (37, 3)], [(38, 4)], [(39, 5)], [(35, 1), (40, 6)], [], [(41, 7), (42, 8)], [(43, 9)]] [[], [], [], [], [2, 3], [2, 3, 4], [2, 3, 4, 5], [1, 2, 3, 4, 5, 6], [], [1, 2, 3, 4, 5, 6, 7, 8], [1, 2, 3, 4, 5, 6, 7, 8, 9]] rfl (by kernel_rfl) (by kernel_rfl) (by kernel_rfl) ?_
   refine Xq Qz.move ?_; refine Xq Qz.ldD ?_; refine Xq Qz.move ?_; refine Xq Qz.move ?_; refine Xq Qz.indexN ?_; refine Xq Qz.fldE ?_; refine Xq Qz.ldE ?_; refine Xq (Qz.call (RMul_abs c (tAt P k).c N M hcs (hP _ ht) hNM)) ?_; refine Xq Qz.ldD ?_; (refine Hq rfl ?_; refine Bq.build (tab_of rfl) rfl rfl rfl ?_; (repeat ((first | refine ⟨_, PartOk.ag (ah rfl), ?_⟩ | refine ⟨_, PartOk.one rfl (by first | exact One.ex_ rfl | exact One.sl | exact One.ep), ?_⟩); refine ⟨_, rfl, ?_⟩)); refine ⟨_, rfl, ?_⟩; refine ⟨_, rfl, ?_⟩); (refine ⟨_, HStep.q rfl (Bq.slice1 (ah rfl) (tab_of rfl) (tab_of rfl) rfl rfl rfl rfl rfl), ?_⟩; refine ⟨_, rfl, ?_⟩); refine ⟨_, rfl, ?_⟩
   (refine AWs.app (ao rfl) rfl rfl (tab_of rfl) (tab_of rfl) rfl rfl (by simp; omega) (by simp; omega) rfl (by first | ((repeat (first | exact PlainHp.nil | refine PlainHp.var ?_ | refine PlainHp.row ?_ | refine PlainHp.dead ?_)); done) | fail) rfl ?_); refine Wq Qz.assign ?_; apply AWl.nil; apply ABlock.normal; apply AThen.normal; apply AWp.region; refine Wq Qz.move ?_; refine Wq Qz.succ ?_; refine Wq Qz.assign ?_; apply AWl.nil
   refine ALoop.next (P.length - (k + 1)) (by omega) ⟨k + 1, by omega, rfl, rfl⟩ ?_
   exact AS.le_of (by refine FrLe.cons rfl (AVle.d rfl) ?_; refine FrLe.cons rfl (AVle.ptr rfl) ?_; refine FrLe.cons rfl (AVle.ptr rfl) ?_; refine FrLe.cons rfl (AVle.own rfl) ?_; refine FrLe.cons rfl (AVle.d rfl) ?_; exact FrLe.nil) (by refine HpLe.cons (OwLe.varD rfl) ?_; refine HpLe.cons (OwLe.varD rfl) ?_; (refine HpLe.cons (OwLe.row ((map_snoc tmC _ ⟨c * (tAt P k).c, add8 m (tAt P k).m⟩).trans (by rw [← htk]; simp [tms]))) ?_); exact HpLe.nil)
  ·obtain rfl : k = P.length := by omega
   apply AWp.seq; apply AWp.seq; apply AWp.region; refine Wq Qz.move ?_; refine Wq Qz.move ?_; refine Wq Qz.lenN ?_; refine Wq Qz.cmpF ?_; apply AWl.nil; apply AThen.normal; refine AWp.condF (ao rfl) ?_; apply AWp.exit; apply AThen.exit; apply ALoop.exit; apply ABlock.hit; apply AThen.normal; apply AWp.seq; apply AWp.region; refine Wq Qz.move ?_; refine Wq Qz.assign ?_; refine Wq Qz.assign ?_; apply AWl.nil; apply AThen.normal; apply AWp.ret
   exact Fin.ret (Rets.of2 (ResV.tmp rfl rfl) (ResV.tmp rfl rfl) (D.le.tup2 (D.le.of_eq (by rw [List.take_length]; rfl)) (D.le.refl _)))
def sclL (c : Rat) (P : List Tm) : List Tm := if c = 0 then [] else tms c (fun _ => 0) P
theorem RScale_abs (c : Rat) (P : List Tm) (N M : Nat) (hcs : RSz c N) (hP : PSz P M) (hPi : PIn P 0 65535) (hn : P.length ≤ 100000) (hNM : N + M ≤ 4398046511103) : Abs Tryz.prog 104 [agD (ratC c), polD P] (polD (sclL c P)) := by
 by_cases hc : c = 0
 ·refine Abs.intro Tryz.func104 rfl (callFunc_run Tryz.func104 (by kernel_rfl) (by kernel_rfl)) rfl fun s0 => ?_
  rw [Tryz.ntmps104]
  apply AWp.seq; apply AWp.region; refine AWs.bx (ao rfl) rfl rfl rfl rfl ?_; refine Wq Qz.assign ?_; apply AWl.nil; apply AThen.normal; apply AWp.seq; apply AWp.region; refine Wq Qz.ldD ?_; (refine AWs.q rfl rfl ?_; (refine Bq.arr (tab_of rfl) (tab_of rfl) rfl rfl ?_; (repeat ((first | refine ⟨_, PartOk.ag (ao rfl), ?_⟩ | refine ⟨_, PartOk.one rfl (by first | exact One.ex_ rfl | exact One.sl | exact One.ep), ?_⟩); refine ⟨_, rfl, ?_⟩)); refine ⟨_, rfl, ?_⟩)); refine Wq Qz.move ?_; refine Wq (Qz.call (RTimes0_abs c (fun _ => 0) P hc)) ?_; refine Wq Qz.move ?_; refine Wq Qz.ext ?_; refine Wq Qz.ext ?_; refine Wq Qz.assign ?_; refine Wq Qz.assign ?_; apply AWl.nil; apply AThen.normal; apply AWp.seq; apply AWp.region; refine Wq Qz.move ?_; refine Wq Qz.assign ?_; apply AWl.nil; apply AThen.normal; apply AWp.ret
  exact Fin.ret (Rets.of1 (ResV.tmp rfl rfl) (D.le_pol (by rw [sclL, if_pos hc])))
 ·refine Abs.intro Tryz.func104 rfl (callFunc_run Tryz.func104 (by kernel_rfl) (by kernel_rfl)) rfl fun s0 => ?_
  rw [Tryz.ntmps104]
  apply AWp.seq; apply AWp.region; refine AWs.bx (ao rfl) rfl rfl rfl rfl ?_; refine Wq Qz.assign ?_; apply AWl.nil; apply AThen.normal; apply AWp.seq; apply AWp.region; refine Wq Qz.ldD ?_; (refine AWs.q rfl rfl ?_; (refine Bq.arr (tab_of rfl) (tab_of rfl) rfl rfl ?_; (repeat ((first | refine ⟨_, PartOk.ag (ao rfl), ?_⟩ | refine ⟨_, PartOk.one rfl (by first | exact One.ex_ rfl | exact One.sl | exact One.ep), ?_⟩); refine ⟨_, rfl, ?_⟩)); refine ⟨_, rfl, ?_⟩)); refine Wq Qz.move ?_; refine Wq (Qz.call (RTimes_abs c (fun _ => 0) P N M hc hcs In8.zero hP hPi (fun t ht => by rw [zero_add8]; exact hPi t ht) hn hNM)) ?_; refine Wq Qz.move ?_; refine Wq Qz.ext ?_; refine Wq Qz.ext ?_; refine Wq Qz.assign ?_; refine Wq Qz.assign ?_; apply AWl.nil; apply AThen.normal; apply AWp.seq; apply AWp.region; refine Wq Qz.move ?_; refine Wq Qz.assign ?_; apply AWl.nil; apply AThen.normal; apply AWp.ret
  exact Fin.ret (Rets.of1 (ResV.tmp rfl rfl) (D.le_pol (by rw [sclL, if_neg hc])))
theorem tms_psz {c : Rat} {m : Nat → Int} {P : List Tm} {N M : Nat} (hc : RSz c N) (hP : PSz P M) : PSz (tms c m P) (N + M) := fun t ht => by
 obtain ⟨s, hs, rfl⟩ := List.mem_map.1 ht
 exact hc.mul (hP s hs)
theorem sclL_psz {c : Rat} {P : List Tm} {N M : Nat} (hc : RSz c N) (hP : PSz P M) : PSz (sclL c P) (N + M) := by
 unfold sclL
 split
 ·intro t ht; cases ht
 ·exact tms_psz hc hP
theorem sclL_length (c : Rat) (P : List Tm) : (sclL c P).length ≤ P.length := by
 unfold sclL
 split <;> simp
theorem rsz_sm {x : Int} (h0 : -1000 ≤ x) (h1 : x ≤ 1000) : RSz ((x : Int) : Rat) 1 := by
 refine ⟨?_, ?_⟩
 ·show (digs (x : Int).natAbs).length ≤ 1
  exact len_of_lt (by simp only [BB, Nat.pow_one]; omega)
 ·show (digs 1).length ≤ 1
  exact len_of_lt (by simp only [BB, Nat.pow_one]; omega)
theorem RSub_abs (P Q : List Tm) (N M : Nat) (hP : PSz P N) (hQ : PSz Q M) (hQi : PIn Q 0 65535) (hNM : N + M + 2 ≤ 4398046511103) (hn : P.length + Q.length ≤ 100000) : Abs Tryz.prog 57 [polD P, polD Q] (polD (mrg P (sclL (-1 : Int) Q))) := by
 have h1 : RSz ((-1 : Int) : Rat) 1 := rsz_sm (by omega) (by omega)
 have hl := sclL_length (-1 : Int) Q
 refine Abs.intro Tryz.func57 rfl (callFunc_run Tryz.func57 (by kernel_rfl) (by kernel_rfl)) rfl fun s0 => ?_
 rw [Tryz.ntmps57]
 apply AWp.seq; apply AWp.region; refine Wq Qz.assign ?_; apply AWl.nil; apply AThen.normal; apply AWp.seq; apply AWp.region; refine Wq Qz.move ?_; refine Wq (Qz.call (RWhole_abs (-1) (by omega) (by omega))) ?_; refine Wq Qz.move ?_; refine Wq (Qz.call (RScale_abs (-1 : Int) Q 1 M h1 hQ hQi (by omega) (by omega))) ?_; refine Wq (Qz.call (RAdd_pol P (sclL (-1 : Int) Q) N (1 + M) hP (sclL_psz h1 hQ) (by omega) (by omega))) ?_; refine Wq Qz.assign ?_; apply AWl.nil; apply AThen.normal; apply AWp.ret
 exact Fin.ret (Rets.of1 (ResV.tmp rfl rfl) (D.le.refl _))
end Go.Proofs.YteicdddphdomkaaGreat
namespace Go.Proofs.YteicdddphdomkaaGreat
open Go.RowKit
theorem Canon.nil : Canon [] := ⟨List.Pairwise.nil, fun t h => by cases h⟩
theorem Canon.single {t : Tm} (h : t.c ≠ 0) : Canon [t] := ⟨List.pairwise_singleton _ _, fun u hu => by rw [List.mem_singleton.1 hu]; exact h⟩
theorem mrg_psz {N M : Nat} : ∀ {P Q : List Tm}, PSz P N → PSz Q M → PSz (mrg P Q) (N + M + 1)
 | [], Q, _, h => by simp only [mrg]; exact h.mono (by omega)
 | s :: P, [], h, _ => by simp only [mrg]; exact h.mono (by omega)
 | s :: P, t :: Q, hP, hQ => by
  have hP' : PSz P N := fun u hu => hP u (by simp [hu])
  have hQ' : PSz Q M := fun u hu => hQ u (by simp [hu])
  have con : ∀ {x : Tm} {L : List Tm}, RSz x.c (N + M + 1) → PSz L (N + M + 1) → PSz (x :: L) (N + M + 1) := fun h1 h2 u hu => by
   rcases List.mem_cons.1 hu with rfl | hu
   ·exact h1
   ·exact h2 u hu
  rw [mrg]
  split
  ·exact con ((hP s (by simp)).mono (by omega)) (mrg_psz hP' hQ)
  ·split
   ·exact con ((hQ t (by simp)).mono (by omega)) (mrg_psz hP hQ')
   ·split
    ·exact mrg_psz hP' hQ'
    ·exact con ((hP s (by simp)).add (hQ t (by simp))) (mrg_psz hP' hQ')
termination_by P Q => P.length + Q.length
theorem mrg_pin {P Q : List Tm} {a b : Int} (hP : PIn P a b) (hQ : PIn Q a b) : PIn (mrg P Q) a b := fun u hu => by
 rcases mrg_mem P Q u hu with ⟨s, hs, e⟩ | ⟨s, hs, e⟩
 ·rw [← e]; exact hP s hs
 ·rw [← e]; exact hQ s hs
theorem SameL.symm : ∀ {P Q : List Tm}, SameL P Q → SameL Q P
 | [], [], _ => trivial
 | _ :: _, _ :: _, h => ⟨h.1.symm, h.2.1.symm, SameL.symm h.2.2⟩
 | [], _ :: _, h => h.elim
 | _ :: _, [], h => h.elim
structure PB (P : List Tm) (n N : Nat) (d : Int) : Prop where
 can : Canon P
 len : P.length ≤ n
 sz : PSz P N
 ex : PIn P 0 d
theorem PB.mono {P : List Tm} {n N n' N' : Nat} {d d' : Int} (h : PB P n N d) (h1 : n ≤ n') (h2 : N ≤ N') (h3 : d ≤ d') : PB P n' N' d' := ⟨h.can, Nat.le_trans h.len h1, h.sz.mono h2, h.ex.mono (Int.le_refl _) h3⟩
theorem PB.nil {n N : Nat} {d : Int} : PB [] n N d := ⟨Canon.nil, Nat.zero_le _, fun t h => (by cases h), fun t h => (by cases h)⟩
theorem PB.add {P Q : List Tm} {n N n' N' : Nat} {d d' : Int} (h : PB P n N d) (k : PB Q n' N' d') : PB (mrg P Q) (n + n') (N + N' + 1) (max d d') :=
 ⟨mrg_canon h.can k.can, by have := mrg_length P Q; have := h.len; have := k.len; omega, mrg_psz h.sz k.sz, mrg_pin (h.ex.mono (Int.le_refl _) (by omega)) (k.ex.mono (Int.le_refl _) (by omega))⟩
def neg (P : List Tm) : List Tm := P.map (fT fun q => -q)
theorem dec_map {f : Tm → Tm} {P : List Tm} (h : Dec P) (hf : ∀ s ∈ P, ∀ t ∈ P, 0 < lx s.m t.m → 0 < lx (f s).m (f t).m) : Dec (P.map f) := by
 refine List.pairwise_map.2 (List.Pairwise.imp_of_mem (fun {a b} ha hb hab => hf a ha b hb hab) h)
theorem neg_canon {P : List Tm} (h : Canon P) : Canon (neg P) := ⟨dec_map h.1 fun _ _ _ _ h => h, fun t ht => by
 obtain ⟨s, hs, rfl⟩ := List.mem_map.1 ht
 intro e
 have e : -s.c = 0 := e
 exact h.2 s hs (by grind)⟩
theorem PB.neg {P : List Tm} {n N : Nat} {d : Int} (h : PB P n N d) : PB (neg P) n N d := ⟨neg_canon h.can, by rw [Go.Proofs.YteicdddphdomkaaGreat.neg, List.length_map]; exact h.len, fun t ht => by
 obtain ⟨s, hs, rfl⟩ := List.mem_map.1 ht
 exact (h.sz s hs).neg, fun t ht => by
 obtain ⟨s, hs, rfl⟩ := List.mem_map.1 ht
 exact h.ex s hs⟩
theorem neg_dot (f : (Nat → Int) → Rat) : ∀ P : List Tm, dot f (neg P) = -dot f P
 | [] => by simp [neg, dot]
 | t :: P => by
  have := neg_dot f P
  simp only [neg, List.map_cons, dot, fT] at this ⊢
  rw [this]; grind
def psub (P Q : List Tm) : List Tm := mrg P (neg Q)
theorem PB.sub {P Q : List Tm} {n N n' N' : Nat} {d d' : Int} (h : PB P n N d) (k : PB Q n' N' d') : PB (psub P Q) (n + n') (N + N' + 1) (max d d') := h.add k.neg
theorem rat_mul_ne {a b : Rat} (ha : a ≠ 0) (hb : b ≠ 0) : a * b ≠ 0 := fun e => by
 rcases Rat.mul_eq_zero.1 e with h | h
 ·exact ha h
 ·exact hb h
theorem tms_canon {c : Rat} {m : Nat → Int} {P : List Tm} (hc : c ≠ 0) (h : Canon P) : Canon (tms c m P) := ⟨dec_map h.1 fun s _ t _ h => by
 show 0 < lx (add8 m s.m) (add8 m t.m)
 rwa [add8_comm m, add8_comm m, lx_add], fun t ht => by
 obtain ⟨s, hs, rfl⟩ := List.mem_map.1 ht
 exact rat_mul_ne hc (h.2 s hs)⟩
theorem add8_in {a b : Nat → Int} {d e : Int} (ha : In8 a 0 d) (hb : In8 b 0 e) : In8 (add8 a b) 0 (d + e) := fun i hi => by
 have := ha i hi
 have := hb i hi
 simp only [add8]
 omega
theorem tms_pb {t : Tm} {P : List Tm} {n N N0 : Nat} {d d0 : Int} (h : PB P n N d) (hc : t.c ≠ 0) (hs : RSz t.c N0) (hm : In8 t.m 0 d0) : PB (tms t.c t.m P) n (N0 + N) (d0 + d) :=
 ⟨tms_canon hc h.can, by rw [tms_length]; exact h.len, tms_psz hs h.sz, fun u hu => by
  obtain ⟨s, hs, rfl⟩ := List.mem_map.1 hu
  exact add8_in hm (h.ex s hs)⟩
def mulTo (A P Q : List Tm) : List Tm := P.foldl (fun a s => mrg a (tms s.c s.m Q)) A
def pmul (P Q : List Tm) : List Tm := mulTo [] P Q
theorem mulTo_pb {Q : List Tm} {n' N' N : Nat} {d d' : Int} (hQ : PB Q n' N' d') : ∀ {P A : List Tm} {k K : Nat}, (∀ t ∈ P, t.c ≠ 0) → PSz P N → PIn P 0 d → PB A k K (d + d') → PB (mulTo A P Q) (k + P.length * n') (K + P.length * (N + N' + 1)) (d + d')
 | [], A, k, K, _, _, _, h => by simpa [mulTo] using h
 | t :: P, A, k, K, h1, h2, h3, h => by
  have ht := tms_pb (t := t) (d0 := d) hQ (h1 t (by simp)) (h2 t (by simp)) (h3 t (by simp))
  have h4 : PB (mrg A (tms t.c t.m Q)) (k + n') (K + (N + N' + 1)) (d + d') := (h.add ht).mono (Nat.le_refl _) (by omega) (by omega)
  have := mulTo_pb hQ (P := P) (fun u hu => h1 u (by simp [hu])) (fun u hu => h2 u (by simp [hu])) (fun u hu => h3 u (by simp [hu])) h4
  refine this.mono ?_ ?_ (Int.le_refl _)
  ·rw [List.length_cons, Nat.succ_mul]; omega
  ·rw [List.length_cons, Nat.succ_mul]; omega
theorem mulTo_sim {Q : List Tm} : ∀ {P A : List Tm}, Sim (mulTo A P Q) (A ++ mulL P Q)
 | [], A => by simp only [mulTo, mulL, List.foldl_nil, List.flatMap_nil, List.append_nil]; exact Sim.refl _
 | t :: P, A => by
  refine (mulTo_sim (P := P) (A := mrg A (tms t.c t.m Q))).trans ?_
  refine ((mrg_sim _ _).append (Sim.refl _)).trans ?_
  simp only [mulL, List.flatMap_cons, tms, List.append_assoc]
  exact Sim.refl _
theorem pmul_sim (P Q : List Tm) : Sim (pmul P Q) (mulL P Q) := mulTo_sim
theorem PB.mul {P Q : List Tm} {n N n' N' : Nat} {d d' : Int} (h : PB P n N d) (k : PB Q n' N' d') (h0 : 0 ≤ d) (h0' : 0 ≤ d') : PB (pmul P Q) (n * n') (n * (N + N' + 1)) (d + d') := by
 have := mulTo_pb (A := []) (k := 0) (K := 0) (d := d) k h.can.2 h.sz h.ex PB.nil
 refine this.mono ?_ ?_ (Int.le_refl _)
 ·rw [Nat.zero_add]; exact Nat.mul_le_mul_right _ h.len
 ·rw [Nat.zero_add]; exact Nat.mul_le_mul_right _ h.len
theorem polD_sim {P Q : List Tm} (hP : Canon P) (hQ : Canon Q) (h : Sim P Q) : polD P = polD Q := polD_same (canon_unique hP hQ h)
theorem neg_sim {P Q : List Tm} (h : Sim P Q) : Sim (neg P) (neg Q) := fun f hf => by rw [neg_dot, neg_dot, h f hf]
theorem PB.same {P Q : List Tm} {n N : Nat} {d : Int} (h : PB P n N d) (hs : SameL P Q) : PB Q n N d := by
 have key : ∀ {P Q : List Tm}, SameL P Q → ∀ t ∈ Q, ∃ s ∈ P, s.c = t.c ∧ Eqv s.m t.m := by
  intro P
  induction P with
  | nil => intro Q h t ht; cases Q with
   | nil => cases ht
   | cons => exact h.elim
  | cons s P ih => intro Q h t ht; cases Q with
   | nil => exact h.elim
   | cons u Q =>
    rcases List.mem_cons.1 ht with rfl | ht
    ·exact ⟨s, by simp, h.1, h.2.1⟩
    ·obtain ⟨x, hx, e⟩ := ih h.2.2 t ht
     exact ⟨x, by simp [hx], e⟩
 have dec : ∀ {P Q : List Tm}, SameL P Q → Dec P → Dec Q := by
  intro P
  induction P with
  | nil => intro Q h _; cases Q with
   | nil => exact List.Pairwise.nil
   | cons => exact h.elim
  | cons s P ih => intro Q h hd; cases Q with
   | nil => exact h.elim
   | cons u Q =>
    have hd := List.pairwise_cons.1 hd
    refine List.pairwise_cons.2 ⟨fun t ht => ?_, ih h.2.2 hd.2⟩
    obtain ⟨x, hx, _, e⟩ := key h.2.2 t ht
    rw [← lx_congr h.2.1 e]
    exact hd.1 x hx
 refine ⟨⟨dec hs h.can.1, fun t ht => ?_⟩, by rw [← hs.length]; exact h.len, fun t ht => ?_, fun t ht => ?_⟩
 ·obtain ⟨s, hs, e, _⟩ := key hs t ht
  rw [← e]; exact h.can.2 s hs
 ·obtain ⟨s, hs, e, _⟩ := key hs t ht
  rw [← e]; exact h.sz s hs
 ·obtain ⟨s, hs, _, e⟩ := key hs t ht
  intro i hi
  rw [← e i hi]; exact h.ex s hs i hi
theorem constL_pb {c : Rat} {N : Nat} (h : RSz c N) {d : Int} (hd : 0 ≤ d) : PB (constL c) 1 N d := by
 unfold constL
 split
 ·exact PB.nil
 ·rename_i hc
  refine ⟨Canon.single hc, by simp, fun t ht => by rw [List.mem_singleton.1 ht]; exact h, fun t ht => by rw [List.mem_singleton.1 ht]; exact fun i hi => ⟨Int.le_refl _, hd⟩⟩
theorem PB.single {t : Tm} {N : Nat} {d : Int} (h : t.c ≠ 0) (hs : RSz t.c N) (hm : In8 t.m 0 d) : PB [t] 1 N d := ⟨Canon.single h, by simp, fun u hu => by rw [List.mem_singleton.1 hu]; exact hs, fun u hu => by rw [List.mem_singleton.1 hu]; exact hm⟩
theorem unitE_in {i : Nat} : In8 (unitE i) 0 1 := fun j _ => by
 unfold unitE setM
 split
 ·omega
 ·exact ⟨Int.le_refl _, (by show (0 : Int) ≤ 1; omega)⟩
end Go.Proofs.YteicdddphdomkaaGreat
namespace Go.Proofs.YteicdddphdomkaaGreat
open Go.RowKit
set_option maxRecDepth 100000
theorem mulTo_take {P Q A : List Tm} {k : Nat} (h : k < P.length) : mulTo A (P.take (k + 1)) Q = mrg (mulTo A (P.take k) Q) (tms (tAt P k).c (tAt P k).m Q) := foldl_tAt (fun a s => mrg a (tms s.c s.m Q)) A h
theorem mulTo_take_pb {P Q : List Tm} {n N n' N' : Nat} {d d' : Int} (h : PB P n N d) (hQ : PB Q n' N' d') (h0 : 0 ≤ d) (h0' : 0 ≤ d') (k : Nat) : PB (mulTo [] (P.take k) Q) (n * n') (n * (N + N' + 1)) (d + d') := by
 have := mulTo_pb (A := []) (k := 0) (K := 0) (d := d) (P := P.take k) hQ (fun t ht => h.can.2 t (List.mem_of_mem_take ht)) (fun t ht => h.sz t (List.mem_of_mem_take ht)) (fun t ht => h.ex t (List.mem_of_mem_take ht)) PB.nil
 have hl : (P.take k).length ≤ n := Nat.le_trans (by rw [List.length_take]; omega) h.len
 refine this.mono ?_ ?_ (Int.le_refl _)
 ·rw [Nat.zero_add]; exact Nat.mul_le_mul_right _ hl
 ·rw [Nat.zero_add]; exact Nat.mul_le_mul_right _ hl
theorem RPMul_pb {P Q : List Tm} {n N n' N' : Nat} {d d' : Int} (hP : PB P n N d) (hQ : PB Q n' N' d') (h0 : 0 ≤ d) (h0' : 0 ≤ d') (hd : d + d' ≤ 65535) (hn0 : n ≤ 100000) (hn : n * n' + n' ≤ 100000) (hN : n * (N + N' + 1) + N + N' + 1 ≤ 4398046511102) : Abs Tryz.prog 115 [polD P, polD Q] (tupD [polD (pmul P Q), ex (.int .i64 0)]) := by
 have hPl := hP.len
 have hQl := hQ.len
 refine Abs.intro Tryz.func115 rfl (callFunc_run Tryz.func115 (by kernel_rfl) (by kernel_rfl)) rfl fun s0 => ?_
 rw [Tryz.ntmps115]
 repeat (first | apply AWp.seq | apply AWp.region | (apply Ga.b0; refine AWs.b0 (tab_of rfl) (tab_of rfl) rfl rfl rfl rfl rfl ?_) | (refine AWs.q rfl rfl ?_; (apply Gt.assign; refine ⟨_, Qs.assign (ao rfl), ?_⟩)) | apply AWl.nil | apply AThen.normal | apply AWp.block)
 refine AWp.loop (fun mz σ => ∃ k, k ≤ P.length ∧ mz = P.length - k ∧ σ = ⟨[(0, .d (polD P)), (1, .d (polD Q)), (6, .d (polD (mulTo [] (P.take k) Q))), (7, .d (ex (.int .i64 (k : Nat))))], []⟩) ?le ⟨0, by omega, rfl, rfl⟩ ?round
 case le => exact AS.le_of (by repeat (first | exact FrLe.nil | refine FrLe.cons rfl (AVle.d rfl) ?_ | refine FrLe.cons rfl (AVle.ownD rfl (D.le.refl _)) ?_)) (by repeat (exact HpLe.nil))
 case round =>
  rintro mz _ ⟨k, hk, rfl, rfl⟩
  by_cases hlt : k < P.length
  ·have ht := tAt_mem hlt
   have hm := hP.ex _ ht
   have hb := mulTo_take_pb hP hQ h0 h0' k
   have hbl := hb.len
   have ht2 := tms_pb (t := tAt P k) hQ (hP.can.2 _ ht) (hP.sz _ ht) hm
   have ht2l := ht2.len
   repeat (first | apply AWp.seq | apply AWp.region | (refine AWs.q rfl rfl ?_; first | (apply Gt.move; refine ⟨_, Qs.move (ao rfl), ?_⟩) | (apply Gt.len; refine ⟨_, Qs.lenN rfl (tab_of rfl), ?_⟩) | (apply Gt.bin; refine ⟨_, Qs.cmpT rfl (ao rfl) (ao rfl) (by first | (simp only [cmpP, List.length_cons, List.length_nil]; omega) | (simp [cmpP]; done) | (simp [cmpP]; omega)), ?_⟩)) | apply AWl.nil | apply AThen.normal | apply AWp.block | apply AWp.skip | (apply Gc.cond; refine AWp.condT (ao rfl) ?_))
   refine AWp.dr' (DrawOk.float (e := 14) (by kernel_rfl) (AddE.keep (AddE.keep (AddE.keep (AddE.keep (AddE.keep (AddE.keep (AddE.keep (AddE.keep (AddE.keep (AddE.keep (AddE.keep (AddE.keep (AddE.keep (AddE.keep (AddE.keep (AddE.add (AddE.keep AddE.nil))))))))))))))))) (by kernel_rfl)) [[], [], [(18, 0), (19, 1)], [(20, 2)], [(21, 3)], [], [], [(23, 5), (24, 6)], [(25, 7)], [(26, 8)], [], [(22, 4), (27, 9), (28, 10)], [(29, 11)], [(17, 12)], [(17, 12)]] [[], [], [0, 1], [0, 1, 2], [0, 1, 2, 3], [], [], [5, 6], [5, 6, 7], [5, 6, 7, 8], [], [0, 1, 2, 3, 4, 5, 6, 7, 8, 9, 10], [0, 1, 2, 3, 4, 5, 6, 7, 8, 9, 10, 11], [0, 1, 2, 3, 4, 5, 6, 7, 8, 9, 10, 11, 12], [0, 1, 2, 3, 4, 5, 6, 7, 8, 9, 10, 11, 12]] rfl (by kernel_rfl) (by kernel_rfl) (by kernel_rfl) ?_
   repeat (first | refine ⟨_, rfl, ?_⟩ | (apply Gh.move; (refine ⟨_, HStep.q rfl (Qs.move (ah rfl)), ?_⟩; refine ⟨_, rfl, ?_⟩)) | (apply Gh.load; first | (refine ⟨_, HStep.q rfl (Qs.loadEf (ah rfl) (tab_of rfl) rfl rfl), ?_⟩; refine ⟨_, rfl, ?_⟩) | (refine ⟨_, HStep.q rfl (Qs.ldE (ah rfl) (tab_of rfl) rfl rfl), ?_⟩; refine ⟨_, rfl, ?_⟩)) | (apply Gh.fieldAddr; (refine ⟨_, HStep.q rfl (Qs.fldE (ah rfl) (tab_of rfl) rfl (tab_of rfl) rfl rfl), ?_⟩; refine ⟨_, rfl, ?_⟩)) | (apply Gh.indexAddr; (refine ⟨_, HStep.q rfl (Qs.indexN rfl (ah rfl) (tab_of rfl) (tab_of rfl) rfl (by first | omega | (simp; omega))), ?_⟩; refine ⟨_, rfl, ?_⟩)) | (apply Gh.ext; (refine ⟨_, HStep.q rfl (Qs.ext (ah rfl) rfl), ?_⟩; refine ⟨_, rfl, ?_⟩)) | (apply Gh.callv; (refine ⟨_, HStep.q rfl (Qs.call (ah rfl) (RTimes_abs (tAt P k).c (tAt P k).m Q N N' (hP.can.2 _ ht) (hP.sz _ ht) (hm.mono (Int.le_refl _) (by omega)) hQ.sz (hQ.ex.mono (Int.le_refl _) (by omega)) (fun t h => (add8_in hm (hQ.ex t h)).mono (Int.le_refl _) hd) (by omega) (by omega)) (by first | ((repeat (first | exact ArgsLe.nil | refine ArgsLe.cons rfl (D.le.refl _) ?_ | refine ArgsLe.cons rfl D.le_nil ?_)); done) | fail)), ?_⟩; refine ⟨_, rfl, ?_⟩)))
   repeat (first | apply AWp.seq | apply AWp.region | (refine AWs.q rfl rfl ?_; first | (apply Gt.move; refine ⟨_, Qs.move (ao rfl), ?_⟩) | (apply Gt.assign; refine ⟨_, Qs.assign (ao rfl), ?_⟩) | (apply Gt.add; refine ⟨_, Qs.succ (ao rfl) (ao rfl) (by omega), ?_⟩) | (apply Gt.bin; refine ⟨_, Qs.cmpF rfl (ao rfl) (ao rfl) (by first | (simp only [cmpP, List.length_cons, List.length_nil]; omega) | (simp [cmpP]; done) | (simp [cmpP]; omega)), ?_⟩) | (apply Gt.callv; refine ⟨_, Qs.call (ao rfl) (RAdd_pol (mulTo [] (P.take k) Q) (tms (tAt P k).c (tAt P k).m Q) (n * (N + N' + 1)) (N + N') hb.sz ht2.sz (by omega) (by omega)) (by first | ((repeat (first | exact ArgsLe.nil | refine ArgsLe.cons rfl (D.le.refl _) ?_ | refine ArgsLe.cons rfl D.le_nil ?_)); done) | fail), ?_⟩)) | apply OnlyN.mk' | apply AWl.nil | apply AThen.normal | apply AWp.skip | apply ABlock.normal | (apply Gc.cond; refine AWp.condF (ao rfl) ?_))
   refine ALoop.next (P.length - (k + 1)) (by omega) ⟨k + 1, by omega, rfl, rfl⟩ ?_
   exact AS.le_of (by repeat (first | exact FrLe.nil | refine FrLe.cons rfl (AVle.d rfl) ?_ | refine FrLe.cons rfl (AVle.le (D.le_pol (mulTo_take hlt).symm)) ?_)) (by repeat (exact HpLe.nil))
  ·obtain rfl : k = P.length := by omega
   repeat (first | apply AWp.seq | apply AWp.region | (refine AWs.q rfl rfl ?_; first | (apply Gt.move; refine ⟨_, Qs.move (ao rfl), ?_⟩) | (apply Gt.assign; refine ⟨_, Qs.assign (ao rfl), ?_⟩) | (apply Gt.len; refine ⟨_, Qs.lenN rfl (tab_of rfl), ?_⟩) | (apply Gt.bin; refine ⟨_, Qs.cmpF rfl (ao rfl) (ao rfl) (by first | (simp only [cmpP, List.length_cons, List.length_nil]; omega) | (simp [cmpP]; done) | (simp [cmpP]; omega)), ?_⟩)) | apply AWl.nil | apply AThen.normal | apply AWp.exit | apply AWp.ret | apply AThen.exit | apply ABlock.hit | apply ALoop.exit | (apply Gc.cond; refine AWp.condF (ao rfl) ?_))
   exact Fin.ret (Rets.of2 (ResV.tmp rfl rfl) (ResV.tmp rfl rfl) (D.le.tup2 (D.le_pol (by rw [List.take_length]; rfl)) (D.le.refl _)))
theorem RBy_pb {P Q : List Tm} {n N n' N' : Nat} {d d' : Int} (hP : PB P n N d) (hQ : PB Q n' N' d') (h0 : 0 ≤ d) (h0' : 0 ≤ d') (hd : d + d' ≤ 65535) (hn0 : n ≤ 100000) (hn : n * n' + n' ≤ 100000) (hN : n * (N + N' + 1) + N + N' + 1 ≤ 4398046511102) : Abs Tryz.prog 47 [polD P, polD Q] (polD (pmul P Q)) := by
 refine Abs.intro Tryz.func47 rfl (callFunc_run Tryz.func47 (by kernel_rfl) (by kernel_rfl)) rfl fun s0 => ?_
 rw [Tryz.ntmps47]
 repeat (first | apply AWp.seq | apply AWp.region | (refine AWs.q rfl rfl ?_; first | (apply Gt.move; refine ⟨_, Qs.move (ao rfl), ?_⟩) | (apply Gt.assign; refine ⟨_, Qs.assign (ao rfl), ?_⟩) | (apply Gt.ext; refine ⟨_, Qs.ext (ao rfl) rfl, ?_⟩) | (apply Gt.callv; refine ⟨_, Qs.call (ao rfl) (RPMul_pb hP hQ h0 h0' hd hn0 hn hN) (by first | ((repeat (first | exact ArgsLe.nil | refine ArgsLe.cons rfl (D.le.refl _) ?_ | refine ArgsLe.cons rfl D.le_nil ?_)); done) | fail), ?_⟩)) | apply AWl.nil | apply AThen.normal | apply AWp.ret)
 exact Fin.ret (Rets.of1 (ResV.tmp rfl rfl) (D.le.refl _))
theorem Abs.le {P : Program} {f : FuncId} {ds : List D} {r r' : D} (h : Abs P f ds r) (hr : D.le r r') : Abs P f ds r' :=
 ⟨h.1, fun s vs h1 h2 h3 => (h.2 s vs h1 h2 h3).mono fun e w' ⟨v, he, s', hw, hl, hv⟩ => ⟨v, he, s', hw, hl, hr _ _ hv⟩⟩
theorem PMul_pb {P Q : List Tm} {n N n' N' : Nat} {d d' : Int} (hP : PB P n N d) (hQ : PB Q n' N' d') (h0 : 0 ≤ d) (h0' : 0 ≤ d') (hd : d + d' ≤ 65535) (hn : n * n' ≤ 100000) (hN : N + N' + 1 ≤ 10000000) : Abs Tryz.prog 18 [polD P, polD Q] (tupD [polD (pmul P Q), ex (.int .i64 0)]) :=
 (PMul_abs P Q N N' hP.sz hQ.sz d d' hP.ex hQ.ex hd h0 h0' (Nat.le_trans (Nat.mul_le_mul hP.len hQ.len) hn) hN).le fun s v hv => by
  obtain ⟨S, ⟨h1, h2, _⟩, h3⟩ := hv
  have h3 : (tupD [polD S, ex (.int .i64 0)]).rel s v := h3
  rwa [polD_sim h1 (hP.mul hQ h0 h0').can (h2.trans (pmul_sim P Q).symm)] at h3
theorem PAdd_pb {P Q : List Tm} {n N n' N' : Nat} {d d' : Int} (hP : PB P n N d) (hQ : PB Q n' N' d') (hn : n + n' ≤ 100000) (hN : N + N' + 1 ≤ 4398046511104) : Abs Tryz.prog 20 [polD P, polD Q] (polD (mrg P Q)) :=
 PAdd_abs P Q N N' hP.sz hQ.sz hN (Nat.le_trans (Nat.add_le_add hP.len hQ.len) hn)
theorem PSub_pb {P Q : List Tm} {n N n' N' : Nat} {d d' : Int} (hP : PB P n N d) (hQ : PB Q n' N' d') (hn : n + n' ≤ 100000) (hN : N + N' + 1 ≤ 4398046511104) : Abs Tryz.prog 21 [polD P, polD Q] (polD (psub P Q)) :=
 PSub_abs P Q N N' hP.sz hQ.sz hN (Nat.le_trans (Nat.add_le_add hP.len hQ.len) hn)
theorem scl_one_neg {Q : List Tm} (hQ : Canon Q) : SameL (sclL (-1 : Int) Q) (neg Q) := by
 rw [sclL, if_neg (by decide)]
 induction Q with
 | nil => trivial
 | cons t Q ih =>
  refine ⟨?_, fun i _ => ?_, ih ⟨(List.pairwise_cons.1 hQ.1).2, fun u hu => hQ.2 u (by simp [hu])⟩⟩
  ·show ((-1 : Int) : Rat) * t.c = -t.c
   have : ((-1 : Int) : Rat) = -1 := rfl
   rw [this]; grind
  ·show 0 + t.m i = t.m i
   omega
theorem RSub_pb {P Q : List Tm} {n N n' N' : Nat} {d d' : Int} (hP : PB P n N d) (hQ : PB Q n' N' d') (hd : d' ≤ 65535) (hn : n + n' ≤ 100000) (hN : N + N' + 2 ≤ 4398046511103) : Abs Tryz.prog 57 [polD P, polD Q] (polD (psub P Q)) := by
 have hs := scl_one_neg hQ.can
 have hc := (hQ.neg.same hs.symm).can
 exact (RSub_abs P Q N N' hP.sz hQ.sz (hQ.ex.mono (Int.le_refl _) hd) hN (Nat.le_trans (Nat.add_le_add hP.len hQ.len) hn)).le (D.le.of_eq (polD_sim (mrg_canon hP.can hc) (mrg_canon hP.can hQ.neg.can) ((mrg_sim _ _).trans (((Sim.refl P).append hs.sim).trans (mrg_sim _ _).symm))))
theorem RSame_true {P Q : List Tm} (h : SameL P Q) : Abs Tryz.prog 19 [polD P, polD Q] (ex (.bool true)) := by
 have := RSame_abs P Q
 rwa [sameB_true.2 h] at this
theorem RSame_sim {P Q : List Tm} (hP : Canon P) (hQ : Canon Q) (h : Sim P Q) : Abs Tryz.prog 19 [polD P, polD Q] (ex (.bool true)) := RSame_true (canon_unique hP hQ h)
theorem PValid_pb {P : List Tm} {n N : Nat} {d : Int} (h : PB P n N d) (hd : d ≤ 65535) (hN : N ≤ 1000000000) (hn : n ≤ 1000000) : Abs Tryz.prog 14 [polD P] (ex (.bool true)) := PValidP_abs P N h.can (h.ex.mono (Int.le_refl _) hd) h.sz hN (Nat.le_trans h.len hn)
end Go.Proofs.YteicdddphdomkaaGreat
namespace Go.Proofs.YteicdddphdomkaaGreat
open Go.RowKit
set_option maxRecDepth 100000
def degL (P : List Tm) : Int := P.foldl (fun d t => max d (sumTo t.m 8)) (-1)
theorem degL_take {P : List Tm} {k : Nat} (h : k < P.length) : degL (P.take (k + 1)) = max (degL (P.take k)) (sumTo (tAt P k).m 8) := foldl_tAt (fun d t => max d (sumTo t.m 8)) (-1) h
theorem PDeg_abs (P : List Tm) (hP : PIn P 0 65535) (hn : P.length ≤ 1000000) : Abs Tryz.prog 37 [polD P] (ex (.int .i64 (degL P))) := by
 refine Abs.intro Tryz.func37 rfl (callFunc_run Tryz.func37 (by kernel_rfl) (by kernel_rfl)) rfl fun s0 => ?_
 rw [Tryz.ntmps37]
 apply AWp.seq; apply AWp.region; refine Wq Qz.assign ?_; apply AWl.nil; apply AThen.normal; apply AWp.seq; apply AWp.region; refine Wq Qz.assign ?_; apply AWl.nil; apply AThen.normal; apply AWp.seq; apply AWp.seq; apply AWp.region; refine Wq Qz.move ?_; refine Wq Qz.lenN ?_; refine Wq Qz.move ?_; apply AWl.nil; apply AThen.normal; apply AWp.block
 refine AWp.loop (fun mz σ => ∃ k, k ≤ P.length ∧ mz = P.length - k ∧ σ = ⟨[(3, .d (ex (.int .i64 (degL (P.take k))))), (6, .d (polD P)), (7, .d (ex (.int .i64 (P.length : Nat)))), (8, .d (ex (.int .i64 (k : Nat))))], []⟩) ?le ⟨0, by omega, rfl, rfl⟩ ?round
 case le => exact AS.le_of (by refine FrLe.cons rfl (AVle.d rfl) ?_; refine FrLe.cons rfl (AVle.d rfl) ?_; refine FrLe.cons rfl (AVle.d rfl) ?_; refine FrLe.cons rfl (AVle.d rfl) ?_; exact FrLe.nil) (by exact HpLe.nil)
 case round =>
  rintro mz _ ⟨k, hk, rfl, rfl⟩
  by_cases hlt : k < P.length
  ·have hin := hP _ (tAt_mem hlt)
   have hst := degL_take hlt
   apply AWp.seq; apply AWp.region; refine Wq Qz.cmpT ?_; apply AWl.nil; apply AThen.normal; apply AWp.seq; refine AWp.condT (ao rfl) ?_; apply AWp.skip; apply AThen.normal; apply AWp.seq; apply AWp.block; apply AWp.seq; apply AWp.region; refine Wq Qz.indexN ?_; refine Wq Qz.loadEf ?_; refine AWs.al (tab_of rfl) rfl rfl rfl rfl rfl rfl ?_; refine AWs.stF (ao rfl) (ao rfl) rfl (tab_of rfl) rfl rfl rfl ?_; apply AWl.nil; apply AThen.normal; apply AWp.region; refine Wq Qz.move ?_; refine Wq Qz.fldP ?_; refine Wq Qz.ldD ?_; refine Wq (Qz.call (mDegree_abs (tAt P k).m (hin.mono (by omega) (by omega)))) ?_; refine Wq Qz.max ?_; refine Wq Qz.assign ?_; apply AWl.nil; apply ABlock.normal; apply AThen.normal; apply AWp.region; refine Wq Qz.succ ?_; refine Wq Qz.move ?_; apply AWl.nil
   refine ALoop.next (P.length - (k + 1)) (by omega) ⟨k + 1, by omega, rfl, rfl⟩ ?_
   exact AS.le_of (by refine FrLe.cons rfl (AVle.int hst.symm) ?_; refine FrLe.cons rfl (AVle.d rfl) ?_; refine FrLe.cons rfl (AVle.d rfl) ?_; refine FrLe.cons rfl (AVle.d rfl) ?_; exact FrLe.nil) (by exact HpLe.nil)
  ·obtain rfl : k = P.length := by omega
   apply AWp.seq; apply AWp.region; refine Wq Qz.cmpF ?_; apply AWl.nil; apply AThen.normal; apply AWp.seq; refine AWp.condF (ao rfl) ?_; apply AWp.exit; apply AThen.exit; apply ALoop.exit; apply ABlock.hit; apply AThen.normal; apply AWp.seq; apply AWp.region; refine Wq Qz.move ?_; refine Wq Qz.assign ?_; apply AWl.nil; apply AThen.normal; apply AWp.ret
   exact Fin.ret (Rets.of1 (ResV.tmp rfl rfl) (D.le.of_eq (by rw [List.take_length])))
end Go.Proofs.YteicdddphdomkaaGreat
namespace Go.Proofs.YteicdddphdomkaaGreat
open Go.RowKit
set_option maxRecDepth 100000
def ptD (r : Nat → List D) : List D := r 0 ++ (r 1 ++ (r 2 ++ (r 3 ++ (r 4 ++ (r 5 ++ (r 6 ++ r 7))))))
theorem ptD_take {r : Nat → List D} (h : ∀ j, (r j).length = 4) {k : Nat} (hk : k < 8) : ((ptD r).drop (k * 4)).take 4 = r k ∧ k * 4 + 4 ≤ (ptD r).length := by
 have e : ∀ (a b : List D), a.length = 4 → (a ++ b).take 4 = a := fun a b ha => by rw [← ha, List.take_left]
 have e' : ∀ (a b : List D) (n : Nat), a.length = 4 → (a ++ b).drop (4 + n) = b.drop n := fun a b n ha => by rw [← ha, List.drop_length_add_append]
 have hl : (ptD r).length = 32 := by simp only [ptD, List.length_append, h]
 refine ⟨?_, by omega⟩
 unfold ptD
 match k, hk with
 | 0, _ => exact e _ _ (h 0)
 | 1, _ => rw [e' _ _ 0 (h 0)]; exact e _ _ (h 1)
 | 2, _ => rw [e' _ _ 4 (h 0), e' _ _ 0 (h 1)]; exact e _ _ (h 2)
 | 3, _ => rw [e' _ _ 8 (h 0), e' _ _ 4 (h 1), e' _ _ 0 (h 2)]; exact e _ _ (h 3)
 | 4, _ => rw [e' _ _ 12 (h 0), e' _ _ 8 (h 1), e' _ _ 4 (h 2), e' _ _ 0 (h 3)]; exact e _ _ (h 4)
 | 5, _ => rw [e' _ _ 16 (h 0), e' _ _ 12 (h 1), e' _ _ 8 (h 2), e' _ _ 4 (h 3), e' _ _ 0 (h 4)]; exact e _ _ (h 5)
 | 6, _ => rw [e' _ _ 20 (h 0), e' _ _ 16 (h 1), e' _ _ 12 (h 2), e' _ _ 8 (h 3), e' _ _ 4 (h 4), e' _ _ 0 (h 5)]; exact e _ _ (h 6)
 | 7, _ => rw [e' _ _ 24 (h 0), e' _ _ 20 (h 1), e' _ _ 16 (h 2), e' _ _ 12 (h 3), e' _ _ 8 (h 4), e' _ _ 4 (h 5), e' _ _ 0 (h 6), List.drop_zero, ← h 7, List.take_length]
theorem PartAt.pt {r : Nat → List D} (h : ∀ j, (r j).length = 4) {k : Nat} (hk : k < 8) : PartAt (ptD r) (0 + k * 4) 4 (r k) := by
 rw [Nat.zero_add]
 exact ⟨(ptD_take h hk).2, (ptD_take h hk).1⟩
def setR (r : Nat → List D) (k : Nat) (es : List D) : Nat → List D := fun j => if j = k then es else r j
theorem setR_len {r : Nat → List D} (h : ∀ j, (r j).length = 4) {k : Nat} {es : List D} (he : es.length = 4) (j : Nat) : (setR r k es j).length = 4 := by
 unfold setR
 split
 ·exact he
 ·exact h j
theorem SetAt.pt {r : Nat → List D} (h : ∀ j, (r j).length = 4) {k : Nat} (hk : k < 8) {es : List D} (he : es.length = 4) : SetAt (ptD r) (0 + k * 4) es (ptD (setR r k es)) := by
 rw [Nat.zero_add]
 have hp := ptD_take h hk
 refine ⟨by rw [he]; exact hp.2, ?_⟩
 have hl : ∀ (r : Nat → List D), (∀ j, (r j).length = 4) → (ptD r).length = 32 := fun r h => by simp only [ptD, List.length_append, h]
 have key : ∀ (r : Nat → List D) (h : ∀ j, (r j).length = 4) (i : Nat), i < 32 → (ptD r)[i]? = (r (i / 4))[i % 4]? := fun r h i hi => by
  have h1 := (ptD_take h (k := i / 4) (by omega)).1
  have h2 : (((ptD r).drop (i / 4 * 4)).take 4)[i % 4]? = (ptD r)[i]? := by
   rw [List.getElem?_take, if_pos (Nat.mod_lt _ (by omega)), List.getElem?_drop]
   congr 1; omega
  rw [← h2, h1]
 apply List.ext_getElem?
 intro i
 by_cases hi : i < 32
 ·rw [key _ (setR_len h he) i hi]
  unfold spl
  have ht : ((ptD r).take (k * 4)).length = k * 4 := by rw [List.length_take, hl r h]; omega
  by_cases h1 : i < k * 4
  ·rw [List.getElem?_append_left (by omega), List.getElem?_take, if_pos h1, key r h i hi, setR, if_neg (by omega)]
  ·rw [List.getElem?_append_right (by omega), ht]
   by_cases h2 : i < k * 4 + 4
   ·rw [List.getElem?_append_left (by omega), setR, if_pos (by omega)]
    congr 1; omega
   ·rw [List.getElem?_append_right (by omega), List.getElem?_drop, he, setR, if_neg (by omega), ← key r h i hi]
    congr 1; omega
 ·have h1 : (ptD (setR r k es)).length ≤ i := by rw [hl _ (setR_len h he)]; omega
  have h2 : (spl (ptD r) (k * 4) es).length ≤ i := by
   unfold spl
   rw [List.length_append, List.length_append, List.length_take, List.length_drop, hl r h, he]
   omega
  rw [List.getElem?_eq_none h1, List.getElem?_eq_none h2]
def ptC (x : Nat → Rat) : List D := ptD fun j => ratC (x j)
theorem rat_pow_succ (x : Rat) (n : Nat) : x ^ (n + 1) = x ^ n * x := Rat.pow_succ x n
theorem RSz.pow {x : Rat} {N : Nat} (h : RSz x N) : ∀ n : Nat, RSz (x ^ n) (n * N + 1)
 | 0 => by
  rw [Rat.pow_zero]
  exact (rsz_sm (x := 1) (by omega) (by omega)).mono (by omega)
 | n + 1 => by
  rw [Rat.pow_succ]
  exact ((RSz.pow h n).mul h).mono (by rw [Nat.succ_mul]; omega)
theorem Rpow_abs (x : Rat) (n N : Nat) (h : RSz x N) (hn : n ≤ 65535) (hN : N ≤ 1000000) : Abs Tryz.prog 92 [agD (ratC x), ex (.int .i64 (n : Nat))] (agD (ratC (x ^ n))) := by
 refine Abs.intro Tryz.func92 rfl (callFunc_run Tryz.func92 (by kernel_rfl) (by kernel_rfl)) rfl fun s0 => ?_
 rw [Tryz.ntmps92]
 apply AWp.seq; apply AWp.region; refine AWs.bx (ao rfl) rfl rfl rfl rfl ?_; refine AWs.al (tab_of rfl) rfl rfl rfl rfl rfl rfl ?_; apply AWl.nil; apply AThen.normal; apply AWp.seq; apply AWp.region; refine Wq (Qz.call (RWhole_abs 1 (by omega) (by omega))) ?_; refine AWs.al (tab_of rfl) rfl rfl rfl rfl rfl rfl ?_; refine AWs.stF (ao rfl) (ao rfl) rfl (tab_of rfl) rfl rfl rfl ?_; apply AWl.nil; apply AThen.normal; apply AWp.seq; apply AWp.seq; apply AWp.region; refine Wq Qz.assign ?_; apply AWl.nil; apply AThen.normal; apply AWp.block
 refine AWp.loop (fun mz σ => ∃ k, k ≤ n ∧ mz = n - k ∧ σ = ⟨[(1, .d (ex (.int .i64 (n : Nat)))), (2, .ptr 0 0), (4, .ptr 1 0), (5, .ptr 2 0), (6, .d (ex (.int .i64 (k : Nat))))], [.var 29 ((ratC x).map .d), .var 29 (([ex (.bool false), ex (.slice none 0 0), ex (.bool false), ex (.slice none 0 0)] : List D).map .d), .var 29 ((ratC (x ^ k)).map .d)]⟩) ?le ⟨0, by omega, rfl, rfl⟩ ?round
 case le => exact AS.le_of (by refine FrLe.cons rfl (AVle.d rfl) ?_; refine FrLe.cons rfl (AVle.ptr rfl) ?_; refine FrLe.cons rfl (AVle.ptr rfl) ?_; refine FrLe.cons rfl (AVle.ptr rfl) ?_; refine FrLe.cons rfl (AVle.d rfl) ?_; exact FrLe.nil) (by refine HpLe.cons (OwLe.varD rfl) ?_; refine HpLe.cons (OwLe.varD rfl) ?_; (refine HpLe.cons (OwLe.varD (by rw [Rat.pow_zero]; rfl)) ?_); exact HpLe.nil)
 case round =>
  rintro mz _ ⟨k, hk, rfl, rfl⟩
  by_cases hlt : k < n
  ·have hp := h.pow k
   have hk3 : k * N ≤ 65535 * 1000000 := Nat.mul_le_mul (by omega) hN
   apply AWp.seq; apply AWp.seq; apply AWp.region; refine Wq Qz.move ?_; refine Wq Qz.move ?_; refine Wq Qz.cmpT ?_; apply AWl.nil; apply AThen.normal; refine AWp.condT (ao rfl) ?_; apply AWp.skip; apply AThen.normal; apply AWp.seq; apply AWp.block; apply AWp.region; refine Wq Qz.ldD ?_; refine Wq Qz.ldD ?_; refine Wq (Qz.call (RMul_abs (x ^ k) x (k * N + 1) N hp h (by omega))) ?_; refine AWs.stF (ao rfl) (ao rfl) rfl (tab_of rfl) rfl rfl rfl ?_; apply AWl.nil; apply ABlock.normal; apply AThen.normal; apply AWp.region; refine Wq Qz.move ?_; refine Wq Qz.succ ?_; refine Wq Qz.assign ?_; apply AWl.nil
   refine ALoop.next (n - (k + 1)) (by omega) ⟨k + 1, by omega, rfl, rfl⟩ ?_
   exact AS.le_of (by refine FrLe.cons rfl (AVle.d rfl) ?_; refine FrLe.cons rfl (AVle.ptr rfl) ?_; refine FrLe.cons rfl (AVle.ptr rfl) ?_; refine FrLe.cons rfl (AVle.ptr rfl) ?_; refine FrLe.cons rfl (AVle.d rfl) ?_; exact FrLe.nil) (by refine HpLe.cons (OwLe.varD rfl) ?_; refine HpLe.cons (OwLe.varD rfl) ?_; refine HpLe.cons (OwLe.varD (by rw [← rat_pow_succ])) ?_; exact HpLe.nil)
  ·obtain rfl : k = n := by omega
   apply AWp.seq; apply AWp.seq; apply AWp.region; refine Wq Qz.move ?_; refine Wq Qz.move ?_; refine Wq Qz.cmpF ?_; apply AWl.nil; apply AThen.normal; refine AWp.condF (ao rfl) ?_; apply AWp.exit; apply AThen.exit; apply ALoop.exit; apply ABlock.hit; apply AThen.normal; apply AWp.seq; apply AWp.region; refine Wq Qz.ldD ?_; refine AWs.stF (ao rfl) (ao rfl) rfl (tab_of rfl) rfl rfl rfl ?_; apply AWl.nil; apply AThen.normal; apply AWp.ret
   exact Fin.ret (Rets.of1 (ResV.cell rfl rfl (tab_of rfl) rfl rfl rfl) (D.le.refl _))
theorem pow_half (x : Rat) (n : Nat) : x ^ n = (if n % 2 = 1 then x else 1) * (x * x) ^ (n / 2) := by
 have h1 : x ^ n = x ^ (n % 2 + 2 * (n / 2)) := by congr 1; omega
 have h2 : ∀ m : Nat, x ^ (2 * m) = (x * x) ^ m := fun m => by
  induction m with
  | zero => rw [Nat.mul_zero, Rat.pow_zero, Rat.pow_zero]
  | succ m ih => rw [show 2 * (m + 1) = 2 * m + 1 + 1 by omega, Rat.pow_succ, Rat.pow_succ, Rat.pow_succ, ih]; grind
 rw [h1]
 rcases (show n % 2 = 0 ∨ n % 2 = 1 by omega) with h | h
 ·rw [h, if_neg (by omega), Nat.zero_add, h2]; grind
 ·rw [h, if_pos rfl, Nat.add_comm, Rat.pow_succ, h2]; grind
theorem Ppow_abs (x : Rat) (n N : Nat) (h : RSz x N) (hn : n ≤ 65535) (hn0 : 0 < n) (hN : N ≤ 1000000) : Abs Tryz.prog 85 [agD (ratC x), ex (.int .i64 (n : Nat))] (agD (ratC (x ^ n))) := by
 refine Abs.intro Tryz.func85 rfl (callFunc_run Tryz.func85 (by kernel_rfl) (by kernel_rfl)) rfl fun s0 => ?_
 rw [Tryz.ntmps85]
 apply AWp.seq; apply AWp.region; refine AWs.bx (ao rfl) rfl rfl rfl rfl ?_; refine AWs.al (tab_of rfl) rfl rfl rfl rfl rfl rfl ?_; apply AWl.nil; apply AThen.normal; apply AWp.seq; apply AWp.region; refine Wq (Qz.call (Whole_abs 1 (by omega) (by omega))) ?_; refine AWs.al (tab_of rfl) rfl rfl rfl rfl rfl rfl ?_; refine AWs.stF (ao rfl) (ao rfl) rfl (tab_of rfl) rfl rfl rfl ?_; apply AWl.nil; apply AThen.normal; apply AWp.seq; apply AWp.block
 refine AWp.loop (fun mz σ => ∃ (m K : Nat) (r y : Rat), 0 < m ∧ m ≤ n ∧ r * y ^ m = x ^ n ∧ mz = m ∧ RSz y K ∧ RSz r (K + 1) ∧ K * m ≤ n * N ∧ σ = ⟨[(1, .d (ex (.int .i64 (m : Nat)))), (2, .ptr 0 0), (4, .ptr 1 0), (5, .ptr 2 0)], [.var 29 ((ratC y).map .d), .var 29 (([ex (.bool false), ex (.slice none 0 0), ex (.bool false), ex (.slice none 0 0)] : List D).map .d), .var 29 ((ratC r).map .d)]⟩) ?le ⟨n, N, 1, x, hn0, Nat.le_refl _, by grind, rfl, h, (rsz_sm (x := 1) (by omega) (by omega)).mono (by omega), by rw [Nat.mul_comm]; exact Nat.le_refl _, rfl⟩ ?round
 case le => exact AS.le_of (by refine FrLe.cons rfl (AVle.d rfl) ?_; refine FrLe.cons rfl (AVle.ptr rfl) ?_; refine FrLe.cons rfl (AVle.ptr rfl) ?_; refine FrLe.cons rfl (AVle.ptr rfl) ?_; exact FrLe.nil) (by refine HpLe.cons (OwLe.varD rfl) ?_; refine HpLe.cons (OwLe.varD rfl) ?_; refine HpLe.cons (OwLe.varD rfl) ?_; exact HpLe.nil)
 case round =>
  rintro m _ ⟨m', K, r, y, hm, hmn, heq, rfl, hy, hr, hK, rfl⟩
  have hnN : n * N ≤ 65535 * 1000000 := Nat.mul_le_mul hn hN
  have hKm : K * 1 ≤ K * m := Nat.mul_le_mul_left K hm
  by_cases h1 : 1 < m
  ·have hK2 : (K + K) * (m / 2) ≤ K * m := by
    have : K * (2 * (m / 2)) ≤ K * m := Nat.mul_le_mul_left K (by omega)
    calc (K + K) * (m / 2) = K * (2 * (m / 2)) := by rw [← Nat.two_mul, Nat.mul_comm 2 K, Nat.mul_assoc]
     _ ≤ K * m := this
   have hp := pow_half y m
   by_cases ho : m % 2 = 1
   ·have hi : (m : Int) % 2 = 1 := by omega
    rw [if_pos ho] at hp
    apply AWp.seq; apply AWp.seq; apply AWp.region; refine Wq Qz.move ?_; refine Wq Qz.cmpT ?_; apply AWl.nil; apply AThen.normal; refine AWp.condT (ao rfl) ?_; apply AWp.skip; apply AThen.normal; apply AWp.seq; apply AWp.block; apply AWp.seq; apply AWp.seq; apply AWp.region; refine Wq Qz.move ?_; refine Wq Qz.rem ?_; refine Wq Qz.cmpT ?_; apply AWl.nil; apply AThen.normal; refine AWp.condT (ao rfl) ?_; apply AWp.region; refine Wq Qz.ldD ?_; refine Wq Qz.ldD ?_; refine Wq (Qz.call (Mul_abs r y (K + 1) K hr hy (by omega))) ?_; refine AWs.stF (ao rfl) (ao rfl) rfl (tab_of rfl) rfl rfl rfl ?_; apply AWl.nil; apply AThen.normal; apply AWp.region; refine Wq Qz.ldD ?_; refine Wq Qz.ldD ?_; refine Wq (Qz.call (Mul_abs y y K K hy hy (by omega))) ?_; refine AWs.stF (ao rfl) (ao rfl) rfl (tab_of rfl) rfl rfl rfl ?_; apply AWl.nil; apply ABlock.normal; apply AThen.normal; apply AWp.region; refine Wq Qz.move ?_; refine Wq Qz.quo ?_; refine Wq Qz.assign ?_; apply AWl.nil
    refine ALoop.next (m / 2) (by omega) ⟨m / 2, K + K, r * y, y * y, by omega, by omega, by rw [← heq, hp]; grind, rfl, hy.mul hy, (hr.mul hy).mono (by omega), by omega, rfl⟩ ?_
    exact AS.le_of (by refine FrLe.cons rfl (AVle.d rfl) ?_; refine FrLe.cons rfl (AVle.ptr rfl) ?_; refine FrLe.cons rfl (AVle.ptr rfl) ?_; refine FrLe.cons rfl (AVle.ptr rfl) ?_; exact FrLe.nil) (by refine HpLe.cons (OwLe.varD rfl) ?_; refine HpLe.cons (OwLe.varD rfl) ?_; refine HpLe.cons (OwLe.varD rfl) ?_; exact HpLe.nil)
   ·have hi : (m : Int) % 2 = 0 := by omega
    rw [if_neg ho] at hp
    apply AWp.seq; apply AWp.seq; apply AWp.region; refine Wq Qz.move ?_; refine Wq Qz.cmpT ?_; apply AWl.nil; apply AThen.normal; refine AWp.condT (ao rfl) ?_; apply AWp.skip; apply AThen.normal; apply AWp.seq; apply AWp.block; apply AWp.seq; apply AWp.seq; apply AWp.region; refine Wq Qz.move ?_; refine Wq Qz.rem ?_; refine Wq Qz.cmpF ?_; apply AWl.nil; apply AThen.normal; refine AWp.condF (ao rfl) ?_; apply AWp.skip; apply AThen.normal; apply AWp.region; refine Wq Qz.ldD ?_; refine Wq Qz.ldD ?_; refine Wq (Qz.call (Mul_abs y y K K hy hy (by omega))) ?_; refine AWs.stF (ao rfl) (ao rfl) rfl (tab_of rfl) rfl rfl rfl ?_; apply AWl.nil; apply ABlock.normal; apply AThen.normal; apply AWp.region; refine Wq Qz.move ?_; refine Wq Qz.quo ?_; refine Wq Qz.assign ?_; apply AWl.nil
    refine ALoop.next (m / 2) (by omega) ⟨m / 2, K + K, r, y * y, by omega, by omega, by rw [← heq, hp]; grind, rfl, hy.mul hy, hr.mono (by omega), by omega, rfl⟩ ?_
    exact AS.le_of (by refine FrLe.cons rfl (AVle.d rfl) ?_; refine FrLe.cons rfl (AVle.ptr rfl) ?_; refine FrLe.cons rfl (AVle.ptr rfl) ?_; refine FrLe.cons rfl (AVle.ptr rfl) ?_; exact FrLe.nil) (by refine HpLe.cons (OwLe.varD rfl) ?_; refine HpLe.cons (OwLe.varD rfl) ?_; refine HpLe.cons (OwLe.varD rfl) ?_; exact HpLe.nil)
  ·obtain rfl : m = 1 := by omega
   rw [show y ^ 1 = y by rw [Rat.pow_succ, Rat.pow_zero]; grind] at heq
   apply AWp.seq; apply AWp.seq; apply AWp.region; refine Wq Qz.move ?_; refine Wq Qz.cmpF ?_; apply AWl.nil; apply AThen.normal; refine AWp.condF (ao rfl) ?_; apply AWp.exit; apply AThen.exit; apply ALoop.exit; apply ABlock.hit; apply AThen.normal; apply AWp.seq; apply AWp.region; refine Wq Qz.ldD ?_; refine Wq Qz.ldD ?_; refine Wq (Qz.call (Mul_abs r y (K + 1) K hr hy (by omega))) ?_; refine AWs.stF (ao rfl) (ao rfl) rfl (tab_of rfl) rfl rfl rfl ?_; apply AWl.nil; apply AThen.normal; apply AWp.ret
   exact Fin.ret (Rets.of1 (ResV.cell rfl rfl (tab_of rfl) rfl rfl rfl) (D.le.of_eq (by rw [heq]; rfl)))
end Go.Proofs.YteicdddphdomkaaGreat
namespace Go.Proofs.YteicdddphdomkaaGreat
open Go.RowKit
set_option maxRecDepth 100000
theorem RpowZ_abs (x : Rat) (z : Int) (N : Nat) (h : RSz x N) (h0 : 0 ≤ z) (hz : z ≤ 65535) (hN : N ≤ 1000000) : Abs Tryz.prog 92 [agD (ratC x), ex (.int .i64 z)] (agD (ratC (x ^ z.toNat))) := by
 have := Rpow_abs x z.toNat N h (by omega) hN
 rwa [Int.toNat_of_nonneg h0] at this
theorem PpowZ_abs (x : Rat) (z : Int) (N : Nat) (h : RSz x N) (h0 : 0 < z) (hz : z ≤ 65535) (hN : N ≤ 1000000) : Abs Tryz.prog 85 [agD (ratC x), ex (.int .i64 z)] (agD (ratC (x ^ z.toNat))) := by
 have := Ppow_abs x z.toNat N h (by omega) (by omega) hN
 rwa [Int.toNat_of_nonneg (by omega)] at this
def monV (x : Nat → Rat) (m : Nat → Int) : Nat → Rat
 | 0 => 1
 | i + 1 => monV x m i * x i ^ (m i).toNat
def tvX (x : Nat → Rat) (t : Tm) (i : Nat) : Rat := t.c * monV x t.m i
theorem tvX_succ (x : Nat → Rat) (t : Tm) (i : Nat) : tvX x t i * x i ^ (t.m i).toNat = tvX x t (i + 1) := by
 simp only [tvX, monV]; grind
theorem tvX_zero (x : Nat → Rat) (t : Tm) : tvX x t 0 = t.c := by simp only [tvX, monV]; grind
def evF (x : Nat → Rat) (P : List Tm) : Rat := P.foldl (fun s t => s + tvX x t 8) 0
theorem evF_take {x : Nat → Rat} {P : List Tm} {k : Nat} (h : k < P.length) : evF x (P.take (k + 1)) = evF x (P.take k) + tvX x (tAt P k) 8 := foldl_tAt (fun s t => s + tvX x t 8) 0 h
theorem tvX_sz {x : Nat → Rat} {t : Tm} {N E X : Nat} (ht : RSz t.c N) (hm : In8 t.m 0 E) (hx : ∀ i, i < 8 → RSz (x i) X) : ∀ i, i ≤ 8 → RSz (tvX x t i) (N + i * (E * X + 1))
 | 0, _ => by rw [tvX_zero]; exact ht.mono (by omega)
 | i + 1, hi => by
  rw [← tvX_succ]
  have h1 := hm i (by omega)
  have h2 : (t.m i).toNat * X ≤ E * X := Nat.mul_le_mul_right X (by omega)
  refine ((tvX_sz ht hm hx i (by omega)).mul ((hx i (by omega)).pow (t.m i).toNat)).mono ?_
  rw [Nat.succ_mul]; omega
theorem evF_sz {x : Nat → Rat} {T : Nat} : ∀ {P : List Tm}, (∀ t ∈ P, RSz (tvX x t 8) T) → ∀ {s : Rat} {K : Nat}, RSz s K → RSz (P.foldl (fun s t => s + tvX x t 8) s) (K + P.length * (T + 1))
 | [], _, s, K, h => by simpa using h
 | t :: P, hP, s, K, h => by
  have := evF_sz (P := P) (fun u hu => hP u (by simp [hu])) (h.add (hP t (by simp)))
  exact this.mono (by rw [List.length_cons, Nat.succ_mul]; omega)
def zr4 : List D := [ex (.bool false), ex (.slice none 0 0), ex (.bool false), ex (.slice none 0 0)]
theorem REval_abs (P : List Tm) (x : Nat → Rat) (N E X T : Nat) (hP : PSz P N) (hPi : PIn P 0 (E : Nat)) (hx : ∀ i, i < 8 → RSz (x i) X) (hE : E ≤ 65535) (hn : P.length ≤ 100000) (hX : X ≤ 1000000) (hT : N + 8 * (E * X + 1) ≤ T) (hT1 : T ≤ 10000000) : Abs Tryz.prog 30 [polD P, agD (ptC x)] (agD (ratC (evF x P))) := by
 refine Abs.intro Tryz.func30 rfl (callFunc_run Tryz.func30 (by kernel_rfl) (by kernel_rfl)) rfl fun s0 => ?_
 rw [Tryz.ntmps30]
 apply AWp.seq; apply AWp.region; refine AWs.bx (ao rfl) rfl rfl rfl rfl ?_; refine AWs.al (tab_of rfl) rfl rfl rfl rfl rfl rfl ?_; apply AWl.nil; apply AThen.normal; apply AWp.seq; apply AWp.region; refine Wq (Qz.call (RWhole_abs 0 (by omega) (by omega))) ?_; refine AWs.al (tab_of rfl) rfl rfl rfl rfl rfl rfl ?_; refine AWs.stF (ao rfl) (ao rfl) rfl (tab_of rfl) rfl rfl rfl ?_; apply AWl.nil; apply AThen.normal; apply AWp.seq; apply AWp.seq; apply AWp.region; refine Wq Qz.assign ?_; apply AWl.nil; apply AThen.normal; apply AWp.block
 refine AWp.loop (fun mz σ => ∃ k, k ≤ P.length ∧ mz = P.length - k ∧ σ = ⟨[(0, .d (polD P)), (3, .ptr 0 0), (4, .ptr 1 0), (5, .ptr 2 0), (6, .d (ex (.int .i64 (k : Nat))))], [.var 54 ((ptC x).map .d), .var 29 (zr4.map .d), .var 29 ((ratC (evF x (P.take k))).map .d)]⟩) ?le ⟨0, by omega, rfl, rfl⟩ ?round
 case le => exact AS.le_of (by refine FrLe.cons rfl (AVle.d rfl) ?_; refine FrLe.cons rfl (AVle.ptr rfl) ?_; refine FrLe.cons rfl (AVle.ptr rfl) ?_; refine FrLe.cons rfl (AVle.ptr rfl) ?_; refine FrLe.cons rfl (AVle.d rfl) ?_; exact FrLe.nil) (by refine HpLe.cons (OwLe.varD rfl) ?_; refine HpLe.cons (OwLe.varD rfl) ?_; refine HpLe.cons (OwLe.varD rfl) ?_; exact HpLe.nil)
 case round =>
  rintro mz _ ⟨k, hk, rfl, rfl⟩
  by_cases hlt : k < P.length
  ·have ht := tAt_mem hlt
   have hm := hPi _ ht
   have hst := evF_take (x := x) hlt
   have hall : ∀ t ∈ P.take k, RSz (tvX x t 8) T := fun t h => (tvX_sz (hP t (List.mem_of_mem_take h)) (hPi t (List.mem_of_mem_take h)) hx 8 (by omega)).mono hT
   have hs := evF_sz hall (s := 0) (K := 1) (rsz_sm (x := 0) (by omega) (by omega))
   have hkl : (P.take k).length * (T + 1) ≤ 100000 * 10000001 := Nat.mul_le_mul (by rw [List.length_take]; omega) (by omega)
   apply AWp.seq; apply AWp.seq; apply AWp.region; refine Wq Qz.move ?_; refine Wq Qz.move ?_; refine Wq Qz.lenN ?_; refine Wq Qz.cmpT ?_; apply AWl.nil; apply AThen.normal; refine AWp.condT (ao rfl) ?_; apply AWp.skip; apply AThen.normal; apply AWp.seq; apply AWp.block; apply AWp.seq; apply AWp.region; refine Wq Qz.move ?_; refine Wq Qz.move ?_; refine Wq Qz.indexN ?_; refine Wq Qz.fldE ?_; refine Wq Qz.ldE ?_; refine AWs.al (tab_of rfl) rfl rfl rfl rfl rfl rfl ?_; refine AWs.stF (ao rfl) (ao rfl) rfl (tab_of rfl) rfl rfl rfl ?_; apply AWl.nil; apply AThen.normal; apply AWp.seq; apply AWp.seq; apply AWp.region; refine Wq Qz.assign ?_; apply AWl.nil; apply AThen.normal; apply AWp.block
   refine AWp.loop (fun mz σ => ∃ i, i ≤ 8 ∧ mz = 8 - i ∧ σ = ⟨[(0, .d (polD P)), (3, .ptr 0 0), (4, .ptr 1 0), (5, .ptr 2 0), (6, .d (ex (.int .i64 (k : Nat)))), (7, .ptr 3 0), (8, .d (ex (.int .i64 (i : Nat))))], [.var 54 ((ptC x).map .d), .var 29 (zr4.map .d), .var 29 ((ratC (evF x (P.take k))).map .d), .var 29 ((ratC (tvX x (tAt P k) i)).map .d)]⟩) ?lei ⟨0, by omega, rfl, rfl⟩ ?roundi
   case lei => exact AS.le_of (by refine FrLe.cons rfl (AVle.d rfl) ?_; refine FrLe.cons rfl (AVle.ptr rfl) ?_; refine FrLe.cons rfl (AVle.ptr rfl) ?_; refine FrLe.cons rfl (AVle.ptr rfl) ?_; refine FrLe.cons rfl (AVle.d rfl) ?_; refine FrLe.cons rfl (AVle.ptr rfl) ?_; refine FrLe.cons rfl (AVle.d rfl) ?_; exact FrLe.nil) (by refine HpLe.cons (OwLe.varD rfl) ?_; refine HpLe.cons (OwLe.varD rfl) ?_; refine HpLe.cons (OwLe.varD rfl) ?_; (refine HpLe.cons (OwLe.varD (by rw [tvX_zero]; rfl)) ?_); exact HpLe.nil)
   case roundi =>
    rintro mz _ ⟨i, hi, rfl, rfl⟩
    by_cases hlti : i < 8
    ·have hmi := hm i hlti
     have h2 : ((tAt P k).m i).toNat * X ≤ E * X := Nat.mul_le_mul_right X (by omega)
     have h3 : i * (E * X + 1) ≤ 8 * (E * X + 1) := Nat.mul_le_mul_right _ (by omega)
     have hsz := tvX_sz (hP _ ht) hm hx i (by omega)
     apply AWp.seq; apply AWp.seq; apply AWp.region; refine Wq Qz.move ?_; refine Wq Qz.cmpT ?_; apply AWl.nil; apply AThen.normal; refine AWp.condT (ao rfl) ?_; apply AWp.skip; apply AThen.normal; apply AWp.seq; apply AWp.block
     refine AWp.dr' (DrawOk.self (by kernel_rfl)) [[], [], [(26, 1)], [(27, 2)], [], [], [], [(29, 4), (30, 5)], [(32, 7)], [(33, 8), (31, 6)], [(34, 9)], [(28, 3), (35, 10)], [(25, 0), (36, 11)]] [[], [], [1], [1, 2], [], [], [], [4, 5], [4, 5, 7], [4, 5, 6, 7, 8], [4, 5, 6, 7, 8, 9], [1, 2, 3, 4, 5, 6, 7, 8, 9, 10], [0, 1, 2, 3, 4, 5, 6, 7, 8, 9, 10, 11]] rfl (by kernel_rfl) (by kernel_rfl) (by kernel_rfl) ?_
     refine Xq Qz.ldD ?_; refine Xq Qz.move ?_; refine Xq Qz.ixP ?_; refine ⟨_, HStep.q rfl (Qs.ldX (ah rfl) rfl (tab_of rfl) rfl (PartAt.pt (fun j => ratC_length (x j)) hlti)), ?_⟩; refine ⟨_, rfl, ?_⟩; refine Xq Qz.move ?_; refine Xq Qz.move ?_; refine Xq Qz.move ?_; refine Xq Qz.indexN ?_; refine Xq Qz.fldE ?_; refine Xq Qz.ixE ?_; refine Xq Qz.ldEX1 ?_; refine Xq (Qz.call (RpowZ_abs (x i) ((tAt P k).m i) X (hx i hlti) hmi.1 (by omega) hX)) ?_; refine Xq (Qz.call (RMul_abs (tvX x (tAt P k) i) (x i ^ ((tAt P k).m i).toNat) (N + i * (E * X + 1)) (((tAt P k).m i).toNat * X + 1) hsz ((hx i hlti).pow _) (by omega))) ?_; refine ⟨_, rfl, ?_⟩
     refine AWs.stF (ao rfl) (ao rfl) rfl (tab_of rfl) rfl rfl rfl ?_; apply AWl.nil; apply ABlock.normal; apply AThen.normal; apply AWp.region; refine Wq Qz.move ?_; refine Wq Qz.succ ?_; refine Wq Qz.assign ?_; apply AWl.nil
     refine ALoop.next (8 - (i + 1)) (by omega) ⟨i + 1, by omega, rfl, rfl⟩ ?_
     exact AS.le_of (by refine FrLe.cons rfl (AVle.d rfl) ?_; refine FrLe.cons rfl (AVle.ptr rfl) ?_; refine FrLe.cons rfl (AVle.ptr rfl) ?_; refine FrLe.cons rfl (AVle.ptr rfl) ?_; refine FrLe.cons rfl (AVle.d rfl) ?_; refine FrLe.cons rfl (AVle.ptr rfl) ?_; refine FrLe.cons rfl (AVle.d rfl) ?_; exact FrLe.nil) (by refine HpLe.cons (OwLe.varD rfl) ?_; refine HpLe.cons (OwLe.varD rfl) ?_; refine HpLe.cons (OwLe.varD rfl) ?_; refine HpLe.cons (OwLe.varD (by rw [tvX_succ])) ?_; exact HpLe.nil)
    ·obtain rfl : i = 8 := by omega
     apply AWp.seq; apply AWp.seq; apply AWp.region; refine Wq Qz.move ?_; refine Wq Qz.cmpF ?_; apply AWl.nil; apply AThen.normal; refine AWp.condF (ao rfl) ?_; apply AWp.exit; apply AThen.exit; apply ALoop.exit; apply ABlock.hit; apply AThen.normal; apply AWp.region; refine Wq Qz.ldD ?_; refine Wq Qz.ldD ?_; refine Wq (Qz.call (RAdd_abs (evF x (P.take k)) (tvX x (tAt P k) 8) (1 + (P.take k).length * (T + 1)) (N + 8 * (E * X + 1)) hs (tvX_sz (hP _ ht) hm hx 8 (by omega)) (by omega))) ?_; refine AWs.stF (ao rfl) (ao rfl) rfl (tab_of rfl) rfl rfl rfl ?_; apply AWl.nil; apply ABlock.normal; apply AThen.normal; apply AWp.region; refine Wq Qz.move ?_; refine Wq Qz.succ ?_; refine Wq Qz.assign ?_; apply AWl.nil
     refine ALoop.next (P.length - (k + 1)) (by omega) ⟨k + 1, by omega, rfl, rfl⟩ ?_
     exact AS.le_of (by refine FrLe.cons rfl (AVle.d rfl) ?_; refine FrLe.cons rfl (AVle.ptr rfl) ?_; refine FrLe.cons rfl (AVle.ptr rfl) ?_; refine FrLe.cons rfl (AVle.ptr rfl) ?_; refine FrLe.cons rfl (AVle.d rfl) ?_; exact FrLe.nil) (by refine HpLe.cons (OwLe.varD rfl) ?_; refine HpLe.cons (OwLe.varD rfl) ?_; refine HpLe.cons (OwLe.varD (by rw [hst])) ?_; exact HpLe.nil)
  ·obtain rfl : k = P.length := by omega
   apply AWp.seq; apply AWp.seq; apply AWp.region; refine Wq Qz.move ?_; refine Wq Qz.move ?_; refine Wq Qz.lenN ?_; refine Wq Qz.cmpF ?_; apply AWl.nil; apply AThen.normal; refine AWp.condF (ao rfl) ?_; apply AWp.exit; apply AThen.exit; apply ALoop.exit; apply ABlock.hit; apply AThen.normal; apply AWp.seq; apply AWp.region; refine Wq Qz.ldD ?_; refine AWs.stF (ao rfl) (ao rfl) rfl (tab_of rfl) rfl rfl rfl ?_; apply AWl.nil; apply AThen.normal; apply AWp.ret
   exact Fin.ret (Rets.of1 (ResV.cell rfl rfl (tab_of rfl) rfl rfl rfl) (D.le.of_eq (by rw [List.take_length]; rfl)))
theorem PEval_abs (P : List Tm) (x : Nat → Rat) (N E X T : Nat) (hP : PSz P N) (hPi : PIn P 0 (E : Nat)) (hx : ∀ i, i < 8 → RSz (x i) X) (hE : E ≤ 65535) (hn : P.length ≤ 100000) (hX : X ≤ 1000000) (hT : N + 8 * (E * X + 1) ≤ T) (hT1 : T ≤ 10000000) : Abs Tryz.prog 27 [polD P, agD (ptC x)] (agD (ratC (evF x P))) := by
 refine Abs.intro Tryz.func27 rfl (callFunc_run Tryz.func27 (by kernel_rfl) (by kernel_rfl)) rfl fun s0 => ?_
 rw [Tryz.ntmps27]
 apply AWp.seq; apply AWp.region; refine AWs.bx (ao rfl) rfl rfl rfl rfl ?_; refine AWs.al (tab_of rfl) rfl rfl rfl rfl rfl rfl ?_; apply AWl.nil; apply AThen.normal; apply AWp.seq; apply AWp.region; refine Wq (Qz.call (Whole_abs 0 (by omega) (by omega))) ?_; refine AWs.al (tab_of rfl) rfl rfl rfl rfl rfl rfl ?_; refine AWs.stF (ao rfl) (ao rfl) rfl (tab_of rfl) rfl rfl rfl ?_; apply AWl.nil; apply AThen.normal; apply AWp.seq; apply AWp.seq; apply AWp.region; refine Wq Qz.move ?_; refine Wq Qz.lenN ?_; refine Wq Qz.move ?_; apply AWl.nil; apply AThen.normal; apply AWp.block
 refine AWp.loop (fun mz σ => ∃ k, k ≤ P.length ∧ mz = P.length - k ∧ σ = ⟨[(3, .ptr 0 0), (4, .ptr 1 0), (5, .ptr 2 0), (12, .d (polD P)), (13, .d (ex (.int .i64 (P.length : Nat)))), (14, .d (ex (.int .i64 (k : Nat))))], [.var 54 ((ptC x).map .d), .var 29 (zr4.map .d), .var 29 ((ratC (evF x (P.take k))).map .d)]⟩) ?le ⟨0, by omega, rfl, rfl⟩ ?round
 case le => exact AS.le_of (by refine FrLe.cons rfl (AVle.ptr rfl) ?_; refine FrLe.cons rfl (AVle.ptr rfl) ?_; refine FrLe.cons rfl (AVle.ptr rfl) ?_; refine FrLe.cons rfl (AVle.d rfl) ?_; refine FrLe.cons rfl (AVle.d rfl) ?_; refine FrLe.cons rfl (AVle.d rfl) ?_; exact FrLe.nil) (by refine HpLe.cons (OwLe.varD rfl) ?_; refine HpLe.cons (OwLe.varD rfl) ?_; refine HpLe.cons (OwLe.varD rfl) ?_; exact HpLe.nil)
 case round =>
  rintro mz _ ⟨k, hk, rfl, rfl⟩
  by_cases hlt : k < P.length
  ·have ht := tAt_mem hlt
   have hm := hPi _ ht
   have hst := evF_take (x := x) hlt
   have hall : ∀ t ∈ P.take k, RSz (tvX x t 8) T := fun t h => (tvX_sz (hP t (List.mem_of_mem_take h)) (hPi t (List.mem_of_mem_take h)) hx 8 (by omega)).mono hT
   have hs := evF_sz hall (s := 0) (K := 1) (rsz_sm (x := 0) (by omega) (by omega))
   have hkl : (P.take k).length * (T + 1) ≤ 100000 * 10000001 := Nat.mul_le_mul (by rw [List.length_take]; omega) (by omega)
   apply AWp.seq; apply AWp.region; refine Wq Qz.cmpT ?_; apply AWl.nil; apply AThen.normal; apply AWp.seq; refine AWp.condT (ao rfl) ?_; apply AWp.skip; apply AThen.normal; apply AWp.seq; apply AWp.block; apply AWp.seq; apply AWp.region; refine Wq Qz.indexN ?_; refine Wq Qz.loadEf ?_; refine AWs.al (tab_of rfl) rfl rfl rfl rfl rfl rfl ?_; refine AWs.stF (ao rfl) (ao rfl) rfl (tab_of rfl) rfl rfl rfl ?_; apply AWl.nil; apply AThen.normal; apply AWp.seq; apply AWp.region; refine Wq Qz.fldP ?_; refine Wq Qz.ldD ?_; refine AWs.al (tab_of rfl) rfl rfl rfl rfl rfl rfl ?_; refine AWs.stF (ao rfl) (ao rfl) rfl (tab_of rfl) rfl rfl rfl ?_; apply AWl.nil; apply AThen.normal; apply AWp.seq; apply AWp.seq; apply AWp.region; refine Wq Qz.fldP ?_; refine Wq Qz.ldD ?_; refine Wq Qz.move ?_; apply AWl.nil; apply AThen.normal; apply AWp.block
   refine AWp.loop (fun mz σ => ∃ i, i ≤ 8 ∧ mz = 8 - i ∧ σ = ⟨[(3, .ptr 0 0), (4, .ptr 1 0), (5, .ptr 2 0), (12, .d (polD P)), (13, .d (ex (.int .i64 (P.length : Nat)))), (14, .d (ex (.int .i64 (k : Nat)))), (8, .ptr 4 0), (21, .d (agD (monC (tAt P k).m))), (22, .d (ex (.int .i64 (i : Nat))))], [.var 54 ((ptC x).map .d), .var 29 (zr4.map .d), .var 29 ((ratC (evF x (P.take k))).map .d), .var 33 ((tmC (tAt P k)).map .d), .var 29 ((ratC (tvX x (tAt P k) i)).map .d)]⟩) ?lei ⟨0, by omega, rfl, rfl⟩ ?roundi
   case lei => exact AS.le_of (by refine FrLe.cons rfl (AVle.ptr rfl) ?_; refine FrLe.cons rfl (AVle.ptr rfl) ?_; refine FrLe.cons rfl (AVle.ptr rfl) ?_; refine FrLe.cons rfl (AVle.d rfl) ?_; refine FrLe.cons rfl (AVle.d rfl) ?_; refine FrLe.cons rfl (AVle.d rfl) ?_; refine FrLe.cons rfl (AVle.ptr rfl) ?_; refine FrLe.cons rfl (AVle.d rfl) ?_; refine FrLe.cons rfl (AVle.d rfl) ?_; exact FrLe.nil) (by refine HpLe.cons (OwLe.varD rfl) ?_; refine HpLe.cons (OwLe.varD rfl) ?_; refine HpLe.cons (OwLe.varD rfl) ?_; refine HpLe.cons (OwLe.varD rfl) ?_; (refine HpLe.cons (OwLe.varD (by rw [tvX_zero]; rfl)) ?_); exact HpLe.nil)
   case roundi =>
    rintro mz _ ⟨i, hi, rfl, rfl⟩
    by_cases hlti : i < 8
    ·have hmi := hm i hlti
     have h2 : ((tAt P k).m i).toNat * X ≤ E * X := Nat.mul_le_mul_right X (by omega)
     have h3 : i * (E * X + 1) ≤ 8 * (E * X + 1) := Nat.mul_le_mul_right _ (by omega)
     have hsz := tvX_sz (hP _ ht) hm hx i (by omega)
     by_cases hp : 0 < (tAt P k).m i
     ·apply AWp.seq; apply AWp.region; refine Wq Qz.cmpT ?_; apply AWl.nil; apply AThen.normal; apply AWp.seq; refine AWp.condT (ao rfl) ?_; apply AWp.skip; apply AThen.normal; apply AWp.seq; apply AWp.block; apply AWp.seq; apply AWp.region; refine Wq Qz.move ?_; refine Wq Qz.atX1 ?_; refine Wq Qz.assign ?_; refine Wq Qz.assign ?_; apply AWl.nil; apply AThen.normal; apply AWp.seq; apply AWp.region; refine Wq Qz.move ?_; refine Wq Qz.cmpT ?_; apply AWl.nil; apply AThen.normal; refine AWp.condT (ao rfl) ?_
      refine AWp.dr' (DrawOk.self (by kernel_rfl)) [[], [], [(29, 1)], [(30, 2)], [], [(31, 3), (32, 4)], [(28, 0), (33, 5)]] [[], [], [1], [1, 2], [], [1, 2, 3, 4], [0, 1, 2, 3, 4, 5]] rfl (by kernel_rfl) (by kernel_rfl) (by kernel_rfl) ?_
      refine Xq Qz.ldD ?_; refine Xq Qz.move ?_; refine Xq Qz.ixP ?_; refine ⟨_, HStep.q rfl (Qs.ldX (ah rfl) rfl (tab_of rfl) rfl (PartAt.pt (fun j => ratC_length (x j)) hlti)), ?_⟩; refine ⟨_, rfl, ?_⟩; refine Xq Qz.move ?_; refine Xq (Qz.call (PpowZ_abs (x i) ((tAt P k).m i) X (hx i hlti) hp (by omega) hX)) ?_; refine Xq (Qz.call (Mul_abs (tvX x (tAt P k) i) (x i ^ ((tAt P k).m i).toNat) (N + i * (E * X + 1)) (((tAt P k).m i).toNat * X + 1) hsz ((hx i hlti).pow _) (by omega))) ?_; refine ⟨_, rfl, ?_⟩
      refine AWs.stF (ao rfl) (ao rfl) rfl (tab_of rfl) rfl rfl rfl ?_; apply AWl.nil; apply ABlock.normal; apply AThen.normal; apply AWp.region; refine Wq Qz.succ ?_; refine Wq Qz.move ?_; apply AWl.nil
      refine ALoop.next (8 - (i + 1)) (by omega) ⟨i + 1, by omega, rfl, rfl⟩ ?_
      exact AS.le_of (by refine FrLe.cons rfl (AVle.ptr rfl) ?_; refine FrLe.cons rfl (AVle.ptr rfl) ?_; refine FrLe.cons rfl (AVle.ptr rfl) ?_; refine FrLe.cons rfl (AVle.d rfl) ?_; refine FrLe.cons rfl (AVle.d rfl) ?_; refine FrLe.cons rfl (AVle.d rfl) ?_; refine FrLe.cons rfl (AVle.ptr rfl) ?_; refine FrLe.cons rfl (AVle.d rfl) ?_; refine FrLe.cons rfl (AVle.d rfl) ?_; exact FrLe.nil) (by refine HpLe.cons (OwLe.varD rfl) ?_; refine HpLe.cons (OwLe.varD rfl) ?_; refine HpLe.cons (OwLe.varD rfl) ?_; refine HpLe.cons (OwLe.varD rfl) ?_; refine HpLe.cons (OwLe.varD (by rw [tvX_succ])) ?_; exact HpLe.nil)
     ·have hz : (tAt P k).m i = 0 := by omega
      have he : tvX x (tAt P k) (i + 1) = tvX x (tAt P k) i := by
       rw [← tvX_succ, hz, show (0 : Int).toNat = 0 from rfl, Rat.pow_zero]; grind
      apply AWp.seq; apply AWp.region; refine Wq Qz.cmpT ?_; apply AWl.nil; apply AThen.normal; apply AWp.seq; refine AWp.condT (ao rfl) ?_; apply AWp.skip; apply AThen.normal; apply AWp.seq; apply AWp.block; apply AWp.seq; apply AWp.region; refine Wq Qz.move ?_; refine Wq Qz.atX1 ?_; refine Wq Qz.assign ?_; refine Wq Qz.assign ?_; apply AWl.nil; apply AThen.normal; apply AWp.seq; apply AWp.region; refine Wq Qz.move ?_; refine Wq Qz.cmpF ?_; apply AWl.nil; apply AThen.normal; refine AWp.condF (ao rfl) ?_; apply AWp.skip; apply ABlock.normal; apply AThen.normal; apply AWp.region; refine Wq Qz.succ ?_; refine Wq Qz.move ?_; apply AWl.nil
      refine ALoop.next (8 - (i + 1)) (by omega) ⟨i + 1, by omega, rfl, rfl⟩ ?_
      exact AS.le_of (by refine FrLe.cons rfl (AVle.ptr rfl) ?_; refine FrLe.cons rfl (AVle.ptr rfl) ?_; refine FrLe.cons rfl (AVle.ptr rfl) ?_; refine FrLe.cons rfl (AVle.d rfl) ?_; refine FrLe.cons rfl (AVle.d rfl) ?_; refine FrLe.cons rfl (AVle.d rfl) ?_; refine FrLe.cons rfl (AVle.ptr rfl) ?_; refine FrLe.cons rfl (AVle.d rfl) ?_; refine FrLe.cons rfl (AVle.d rfl) ?_; exact FrLe.nil) (by refine HpLe.cons (OwLe.varD rfl) ?_; refine HpLe.cons (OwLe.varD rfl) ?_; refine HpLe.cons (OwLe.varD rfl) ?_; refine HpLe.cons (OwLe.varD rfl) ?_; refine HpLe.cons (OwLe.varD (by rw [he])) ?_; exact HpLe.nil)
    ·obtain rfl : i = 8 := by omega
     apply AWp.seq; apply AWp.region; refine Wq Qz.cmpF ?_; apply AWl.nil; apply AThen.normal; apply AWp.seq; refine AWp.condF (ao rfl) ?_; apply AWp.exit; apply AThen.exit; apply ALoop.exit; apply ABlock.hit; apply AThen.normal; apply AWp.region; refine Wq Qz.ldD ?_; refine Wq Qz.ldD ?_; refine Wq (Qz.call (Add_abs (evF x (P.take k)) (tvX x (tAt P k) 8) (1 + (P.take k).length * (T + 1)) (N + 8 * (E * X + 1)) hs (tvX_sz (hP _ ht) hm hx 8 (by omega)) (by omega))) ?_; refine AWs.stF (ao rfl) (ao rfl) rfl (tab_of rfl) rfl rfl rfl ?_; apply AWl.nil; apply ABlock.normal; apply AThen.normal; apply AWp.region; refine Wq Qz.succ ?_; refine Wq Qz.move ?_; apply AWl.nil
     refine ALoop.next (P.length - (k + 1)) (by omega) ⟨k + 1, by omega, rfl, rfl⟩ ?_
     exact AS.le_of (by refine FrLe.cons rfl (AVle.ptr rfl) ?_; refine FrLe.cons rfl (AVle.ptr rfl) ?_; refine FrLe.cons rfl (AVle.ptr rfl) ?_; refine FrLe.cons rfl (AVle.d rfl) ?_; refine FrLe.cons rfl (AVle.d rfl) ?_; refine FrLe.cons rfl (AVle.d rfl) ?_; exact FrLe.nil) (by refine HpLe.cons (OwLe.varD rfl) ?_; refine HpLe.cons (OwLe.varD rfl) ?_; refine HpLe.cons (OwLe.varD (by rw [hst])) ?_; exact HpLe.nil)
  ·obtain rfl : k = P.length := by omega
   apply AWp.seq; apply AWp.region; refine Wq Qz.cmpF ?_; apply AWl.nil; apply AThen.normal; apply AWp.seq; refine AWp.condF (ao rfl) ?_; apply AWp.exit; apply AThen.exit; apply ALoop.exit; apply ABlock.hit; apply AThen.normal; apply AWp.seq; apply AWp.region; refine Wq Qz.ldD ?_; refine AWs.stF (ao rfl) (ao rfl) rfl (tab_of rfl) rfl rfl rfl ?_; apply AWl.nil; apply AThen.normal; apply AWp.ret
   exact Fin.ret (Rets.of1 (ResV.cell rfl rfl (tab_of rfl) rfl rfl rfl) (D.le.of_eq (by rw [List.take_length]; rfl)))
end Go.Proofs.YteicdddphdomkaaGreat
namespace Go.Proofs.YteicdddphdomkaaGreat
open Go.RowKit
set_option maxRecDepth 100000
theorem Rabs_abs (z : Int) (h0 : -128 ≤ z) (h1 : z ≤ 127) : Abs Tryz.prog 103 [ex (.int .i8 z)] (ex (.int .i64 (z.natAbs : Nat))) := by
 by_cases hz : z < 0
 ·refine Abs.intro Tryz.func103 rfl (callFunc_run Tryz.func103 (by kernel_rfl) (by kernel_rfl)) rfl fun s0 => ?_
  rw [Tryz.ntmps103]
  repeat (first | refine AWs.q rfl rfl ?_; refine ⟨_, Qs.conv64 (ao rfl) (tab_of rfl) (tab_of rfl) (by omega) (by omega), ?_⟩ | refine AWs.q rfl rfl ?_; refine ⟨_, Qs.neg (ao rfl) (by omega) (by omega), ?_⟩ | apply AWp.seq | apply AWp.region | (refine AWs.q rfl rfl ?_; first | (apply Gt.move; refine ⟨_, Qs.move (ao rfl), ?_⟩) | (apply Gt.assign; refine ⟨_, Qs.assign (ao rfl), ?_⟩) | (apply Gt.bin; refine ⟨_, Qs.cmpT rfl (ao rfl) (ao rfl) (by first | (simp only [cmpP, List.length_cons, List.length_nil]; omega) | (simp [cmpP]; done) | (simp [cmpP]; omega)), ?_⟩)) | apply AWl.nil | apply AThen.normal | apply AWp.ret | apply AThen.ret | (apply Gc.cond; refine AWp.condT (ao rfl) ?_))
  exact Fin.ret (Rets.of1 (ResV.tmp rfl rfl) (D.le.of_eq (by congr 2; omega)))
 ·refine Abs.intro Tryz.func103 rfl (callFunc_run Tryz.func103 (by kernel_rfl) (by kernel_rfl)) rfl fun s0 => ?_
  rw [Tryz.ntmps103]
  repeat (first | refine AWs.q rfl rfl ?_; refine ⟨_, Qs.conv64 (ao rfl) (tab_of rfl) (tab_of rfl) (by omega) (by omega), ?_⟩ | apply AWp.seq | apply AWp.region | (refine AWs.q rfl rfl ?_; first | (apply Gt.move; refine ⟨_, Qs.move (ao rfl), ?_⟩) | (apply Gt.assign; refine ⟨_, Qs.assign (ao rfl), ?_⟩) | (apply Gt.bin; refine ⟨_, Qs.cmpF rfl (ao rfl) (ao rfl) (by first | (simp only [cmpP, List.length_cons, List.length_nil]; omega) | (simp [cmpP]; done) | (simp [cmpP]; omega)), ?_⟩)) | apply AWl.nil | apply AThen.normal | apply AWp.skip | apply AWp.ret | (apply Gc.cond; refine AWp.condF (ao rfl) ?_))
  exact Fin.ret (Rets.of1 (ResV.tmp rfl rfl) (D.le.of_eq (by congr 2; omega)))
def lft (deg : Int) (r : Nat → Int) : Nat → Int
 | 0 => deg
 | j + 1 => lft deg r j - ((r (j + 1)).natAbs : Nat) % (lft deg r j + 1)
theorem lft_in {deg : Int} (r : Nat → Int) (h : 0 ≤ deg) : ∀ j, 0 ≤ lft deg r j ∧ lft deg r j ≤ deg
 | 0 => ⟨h, Int.le_refl _⟩
 | j + 1 => by
  have ih := lft_in r h j
  have h1 := Int.emod_nonneg ((r (j + 1)).natAbs : Int) (show lft deg r j + 1 ≠ 0 by omega)
  have h2 := Int.emod_lt_of_pos ((r (j + 1)).natAbs : Int) (show 0 < lft deg r j + 1 by omega)
  simp only [lft]
  omega
def expE (deg : Int) (r : Nat → Int) (n : Nat) : Nat → Int := fun j => if j < n then ((r (j + 1)).natAbs : Nat) % (lft deg r j + 1) else 0
theorem expE_in {deg : Int} (r : Nat → Int) (h : 0 ≤ deg) (n : Nat) : In8 (expE deg r n) 0 deg := fun j _ => by
 unfold expE
 have ih := lft_in r h j
 split
 ·have h1 := Int.emod_nonneg ((r (j + 1)).natAbs : Int) (show lft deg r j + 1 ≠ 0 by omega)
  have h2 := Int.emod_lt_of_pos ((r (j + 1)).natAbs : Int) (show 0 < lft deg r j + 1 by omega)
  omega
 ·omega
theorem expE_set (deg : Int) (r : Nat → Int) (k : Nat) : setM (expE deg r k) k (((r (k + 1)).natAbs : Nat) % (lft deg r k + 1)) = expE deg r (k + 1) := by
 funext j
 simp only [setM, expE]
 rcases Nat.lt_trichotomy j k with h | h | h
 ·rw [if_neg (by omega), if_pos h, if_pos (by omega)]
 ·subst h; simp
 ·rw [if_neg (by omega), if_neg (by omega), if_neg (by omega)]
def rawT (deg : Int) (n : Nat) (r : Nat → Int) : List Tm := sclL ((Int.tmod (r 0) 4 : Int) : Rat) [⟨1, expE deg r n⟩]
def madeTo (deg : Int) (n : Nat) (X : List (Nat → Int)) : List Tm := X.foldl (fun a r => mrg a (rawT deg n r)) []
def madeP (X : List (Nat → Int)) (n : Nat) (deg : Int) (terms : Nat) : List Tm := madeTo deg (min n 4) (X.take (min X.length terms))
theorem tmod4 (z : Int) : -3 ≤ Int.tmod z 4 ∧ Int.tmod z 4 ≤ 3 := by
 rcases Int.le_total 0 z with h | h
 ·rw [Int.tmod_eq_emod_of_nonneg h]; omega
 ·have : Int.tmod z 4 = -((-z) % 4) := by
   rw [← Int.tmod_eq_emod_of_nonneg (by omega), Int.neg_tmod, Int.neg_neg]
  omega
theorem sclL_pb {c : Rat} {P : List Tm} {n N N0 : Nat} {d : Int} (h : PB P n N d) (hs : RSz c N0) : PB (sclL c P) n (N0 + N) d := by
 unfold sclL
 split
 ·exact PB.nil
 ·rename_i hc
  have := tms_pb (t := ⟨c, fun _ => 0⟩) (d0 := 0) h hc hs fun i _ => ⟨Int.le_refl _, Int.le_refl _⟩
  rwa [Int.zero_add] at this
theorem one_pb {m : Nat → Int} {d : Int} (h : In8 m 0 d) : PB [⟨1, m⟩] 1 1 d := PB.single (show (1 : Rat) ≠ 0 by decide) (rsz_one) h
where rsz_one : RSz (1 : Rat) 1 := rsz_sm (x := 1) (by omega) (by omega)
theorem tmod_sz (z : Int) : RSz ((Int.tmod z 4 : Int) : Rat) 1 := by
 have := tmod4 z
 exact rsz_sm (by omega) (by omega)
theorem rawT_pb {deg : Int} (n : Nat) (r : Nat → Int) (h : 0 ≤ deg) : PB (rawT deg n r) 1 2 deg := sclL_pb (one_pb (expE_in r h n)) (tmod_sz _)
theorem madeTo_pb {deg : Int} {n : Nat} (h : 0 ≤ deg) : ∀ (X : List (Nat → Int)) (A : List Tm) (k K : Nat), PB A k K deg → PB (X.foldl (fun a r => mrg a (rawT deg n r)) A) (k + X.length) (K + X.length * 3) deg
 | [], A, k, K, h => h
 | r :: X, A, k, K, hA => by
  have h1 := (hA.add (rawT_pb n r h)).mono (Nat.le_refl _) (Nat.le_refl _) (Int.max_le.2 ⟨Int.le_refl _, Int.le_refl _⟩)
  have := madeTo_pb (n := n) h X _ _ _ h1
  exact this.mono (by simp; omega) (by simp; omega) (Int.le_refl _)
theorem madeP_pb (X : List (Nat → Int)) (n : Nat) {deg : Int} (terms : Nat) (h : 0 ≤ deg) : PB (madeP X n deg terms) terms (terms * 3) deg := by
 have := madeTo_pb (n := min n 4) h (X.take (min X.length terms)) [] 0 0 PB.nil
 have hl : (X.take (min X.length terms)).length ≤ terms := by rw [List.length_take]; omega
 exact this.mono (by omega) (by omega) (Int.le_refl _)
theorem madeTo_take_pb (X : List (Nat → Int)) (n : Nat) {deg : Int} {terms k : Nat} (h : 0 ≤ deg) (hk : k ≤ terms) : PB (madeTo deg n (X.take k)) terms (terms * 3) deg := by
 have := madeTo_pb (n := n) h (X.take k) [] 0 0 PB.nil
 have hl : (X.take k).length ≤ terms := by rw [List.length_take]; omega
 exact this.mono (by omega) (by omega) (Int.le_refl _)
theorem foldl_i5 {α : Type} (f : α → (Nat → Int) → α) (b : α) {X : List (Nat → Int)} {k : Nat} (h : k < X.length) : (X.take (k + 1)).foldl f b = f ((X.take k).foldl f b) (i5At X k) := by
 have e : X.take (k + 1) = X.take k ++ [i5At X k] := by
  rw [List.take_add_one, List.getElem?_eq_getElem h, i5At, List.getD_eq_getElem?_getD, List.getElem?_eq_getElem h]
  rfl
 rw [e, List.foldl_append]
 rfl
def Raw8 (X : List (Nat → Int)) : Prop := ∀ r ∈ X, ∀ j, j < 5 → -128 ≤ r j ∧ r j ≤ 127
theorem RMade_abs (T : Nat) (X : List (Nat → Int)) (n terms : Nat) (deg : Int) (hX : Raw8 X) (hn : n ≤ 8) (ht : terms ≤ 1000) (h0 : 0 ≤ deg) (hd : deg ≤ 1000) : Abs Tryz.prog 41 [agD [r5D T X], ex (.int .i64 (n : Nat)), ex (.int .i64 deg), ex (.int .i64 (terms : Nat))] (polD (madeP X n deg terms)) := by
 refine Abs.intro Tryz.func41 rfl (callFunc_run Tryz.func41 (by kernel_rfl) (by kernel_rfl)) rfl fun s0 => ?_
 rw [Tryz.ntmps41]
 repeat (first | apply AWp.seq | apply AWp.region | (apply Ga.box; refine AWs.bx (ao rfl) rfl rfl rfl rfl ?_) | (apply Ga.b0; refine AWs.b0 (tab_of rfl) (tab_of rfl) rfl rfl rfl rfl rfl ?_) | (refine AWs.q rfl rfl ?_; (apply Gt.assign; refine ⟨_, Qs.assign (ao rfl), ?_⟩)) | apply AWl.nil | apply AThen.normal | apply AWp.block)
 refine AWp.loop (fun mz σ => ∃ k, k ≤ min X.length terms ∧ mz = min X.length terms - k ∧ σ = ⟨[(1, .d (ex (.int .i64 (n : Nat)))), (2, .d (ex (.int .i64 deg))), (3, .d (ex (.int .i64 (terms : Nat)))), (4, .ptr 0 0), (9, .d (polD (madeTo deg (min n 4) (X.take k)))), (10, .d (ex (.int .i64 (k : Nat))))], [.var 37 ([r5D T X].map .d)]⟩) ?le ⟨0, by omega, rfl, rfl⟩ ?round
 case le => exact AS.le_of (by repeat (first | exact FrLe.nil | refine FrLe.cons rfl (AVle.d rfl) ?_ | refine FrLe.cons rfl (AVle.ptr rfl) ?_ | refine FrLe.cons rfl (AVle.ownD rfl (D.le.refl _)) ?_)) (by repeat (first | exact HpLe.nil | refine HpLe.cons (OwLe.varD rfl) ?_))
 case round =>
  rintro mz _ ⟨k, hk, rfl, rfl⟩
  by_cases hlt : k < min X.length terms
  ·have hkX : k < X.length := by omega
   have hkt : k < terms := by omega
   repeat (first | apply AWp.seq | apply AWp.region | (apply Ga.alloc; refine AWs.al (tab_of rfl) rfl rfl rfl rfl rfl rfl ?_) | (apply Ga.store; refine AWs.stF (ao rfl) (ao rfl) rfl (tab_of rfl) rfl rfl rfl ?_) | (refine AWs.q rfl rfl ?_; first | (apply Gt.move; refine ⟨_, Qs.move (ao rfl), ?_⟩) | (apply Gt.assign; refine ⟨_, Qs.assign (ao rfl), ?_⟩) | (apply Gt.load; refine ⟨_, Qs.ldD1 (ao rfl) rfl (tab_of rfl) rfl rfl, ?_⟩) | (apply Gt.fieldAddr; refine ⟨_, Qs.fldP (ao rfl) (tab_of rfl) rfl (tab_of rfl) rfl, ?_⟩) | (apply Gt.len; refine ⟨_, Qs.lenN rfl (tab_of rfl), ?_⟩) | (apply Gt.bin; refine ⟨_, Qs.cmpT rfl (ao rfl) (ao rfl) (by first | (simp only [cmpP, List.length_cons, List.length_nil]; omega) | (simp [cmpP]; done) | (simp [cmpP]; omega)), ?_⟩) | (apply Gt.pick; refine ⟨_, Qs.pickT (ao rfl) (ao rfl), ?_⟩) | (apply Gt.build; (refine Bq.arr (tab_of rfl) (tab_of rfl) rfl rfl ?_; (repeat ((first | refine ⟨_, PartOk.ag (ao rfl), ?_⟩ | refine ⟨_, PartOk.one rfl (by first | exact One.ex_ rfl | exact One.sl | exact One.ep), ?_⟩); refine ⟨_, rfl, ?_⟩)); refine ⟨_, rfl, ?_⟩))) | (refine AWs.qG rfl rfl rfl rfl rfl ?_; first | (apply Gt.move; refine ⟨_, Qs.move (ao rfl), ?_⟩) | (apply Gt.bin; refine ⟨_, Qs.cmpT rfl (ao rfl) (ao rfl) (by first | (simp only [cmpP, List.length_cons, List.length_nil]; omega) | (simp [cmpP]; done) | (simp [cmpP]; omega)), ?_⟩)) | apply AWl.nil | apply AThen.normal | apply AWp.block | apply AWp.skip | (apply Gc.cond; refine AWp.condT (ao rfl) ?_))
   refine AWp.loop (fun mz σ => ∃ i, i ≤ min n 4 ∧ mz = min n 4 - i ∧ σ = ⟨[(1, .d (ex (.int .i64 (n : Nat)))), (2, .d (ex (.int .i64 deg))), (3, .d (ex (.int .i64 (terms : Nat)))), (4, .ptr 0 0), (9, .d (polD (madeTo deg (min n 4) (X.take k)))), (10, .d (ex (.int .i64 (k : Nat)))), (11, .ptr 1 0), (12, .d (ex (.int .i64 (lft deg (i5At X k) i)))), (13, .d (ex (.int .i64 (i : Nat))))], [.var 37 ([r5D T X].map .d), .var 31 ((monC (expE deg (i5At X k) i)).map .d)]⟩) ?lei ⟨0, by omega, rfl, rfl⟩ ?roundi
   case lei => exact AS.le_of (by repeat (first | exact FrLe.nil | refine FrLe.cons rfl (AVle.d rfl) ?_ | refine FrLe.cons rfl (AVle.ptr rfl) ?_)) (by repeat (first | exact HpLe.nil | refine HpLe.cons (OwLe.varD rfl) ?_))
   case roundi =>
    rintro mz _ ⟨i, hi, rfl, rfl⟩
    by_cases hlti : i < min n 4
    ·have hl := lft_in (i5At X k) h0 i
     have hr := hX _ (i5At_mem hkX) (i + 1) (by omega)
     have hs : setM (expE deg (i5At X k) i) i (((i5At X k (i + 1)).natAbs : Nat) % (lft deg (i5At X k) i + 1)) i = ((i5At X k (i + 1)).natAbs : Nat) % (lft deg (i5At X k) i + 1) := if_pos rfl
     have he1 := Int.emod_nonneg ((i5At X k (i + 1)).natAbs : Int) (show lft deg (i5At X k) i + 1 ≠ 0 by omega)
     have he2 := Int.emod_lt_of_pos ((i5At X k (i + 1)).natAbs : Int) (show 0 < lft deg (i5At X k) i + 1 by omega)
     repeat (first | refine AWs.q rfl rfl ?_; refine ⟨_, Qs.succL (ao rfl) (ao rfl) (by omega), ?_⟩ | refine AWs.q rfl rfl ?_; refine ⟨_, Qs.ldEX1 (ao rfl) (tab_of rfl) rfl (CellAt.r5 (show i + 1 < 5 by omega)), ?_⟩ | apply AWp.seq | apply AWp.region | (apply Ga.store; refine AWs.stX1 (ao rfl) (ao rfl) rfl (tab_of rfl) (by first | exact One.ex_ rfl | exact One.sl | exact One.ep) (SetAt.mon (by first | omega | (simp; omega))) rfl ?_) | (refine AWs.q rfl rfl ?_; first | (apply Gt.move; refine ⟨_, Qs.move (ao rfl), ?_⟩) | (apply Gt.assign; refine ⟨_, Qs.assign (ao rfl), ?_⟩) | (apply Gt.load; first | refine ⟨_, Qs.ldD1 (ao rfl) rfl (tab_of rfl) rfl rfl, ?_⟩ | refine ⟨_, Qs.ldX1 (ao rfl) rfl (tab_of rfl) rfl (CellAt.mon0 (by first | omega | (simp; omega))), ?_⟩) | (apply Gt.fieldAddr; refine ⟨_, Qs.fldP (ao rfl) (tab_of rfl) rfl (tab_of rfl) rfl, ?_⟩) | (apply Gt.indexAddr; first | refine ⟨_, Qs.indexN rfl (ao rfl) (tab_of rfl) (tab_of rfl) rfl (by first | omega | (simp; omega)), ?_⟩ | refine ⟨_, Qs.ixP (ao rfl) (ao rfl) (tab_of rfl) (tab_of rfl) (by first | omega | (simp; omega)), ?_⟩ | refine ⟨_, Qs.ixE (ao rfl) (ao rfl) (tab_of rfl) (tab_of rfl) (by first | omega | (simp; omega)), ?_⟩) | (apply Gt.add; first | refine ⟨_, Qs.succ (ao rfl) (ao rfl) (by omega), ?_⟩ | refine ⟨_, Qs.add (ao rfl) (ao rfl) (by omega) (by omega), ?_⟩) | (apply Gt.sub; refine ⟨_, Qs.sub (ao rfl) (ao rfl) (by omega) (by omega), ?_⟩) | (apply Gt.rem; refine ⟨_, Qs.rem (ao rfl) (ao rfl) (by omega) (by omega), ?_⟩) | (apply Gt.bin; refine ⟨_, Qs.cmpT rfl (ao rfl) (ao rfl) (by first | (simp only [cmpP, List.length_cons, List.length_nil]; omega) | (simp [cmpP]; done) | (simp [cmpP]; omega)), ?_⟩) | (apply Gt.pick; refine ⟨_, Qs.pickT (ao rfl) (ao rfl), ?_⟩) | (apply Gt.callv; refine ⟨_, Qs.call (ao rfl) (Rabs_abs (i5At X k (i + 1)) hr.1 hr.2) (by first | ((repeat (first | exact ArgsLe.nil | refine ArgsLe.cons rfl (D.le.refl _) ?_ | refine ArgsLe.cons rfl D.le_nil ?_)); done) | fail), ?_⟩)) | (refine AWs.qG rfl rfl rfl rfl rfl ?_; first | (apply Gt.move; refine ⟨_, Qs.move (ao rfl), ?_⟩) | (apply Gt.bin; refine ⟨_, Qs.cmpT rfl (ao rfl) (ao rfl) (by first | (simp only [cmpP, List.length_cons, List.length_nil]; omega) | (simp [cmpP]; done) | (simp [cmpP]; omega)), ?_⟩)) | apply AWl.nil | apply AThen.normal | apply AWp.block | apply AWp.skip | apply ABlock.normal | (apply Gc.cond; refine AWp.condT (ao rfl) ?_))
     refine ALoop.next (min n 4 - (i + 1)) (by omega) ⟨i + 1, by omega, rfl, rfl⟩ ?_
     exact AS.le_of (by repeat (first | exact FrLe.nil | refine FrLe.cons rfl (AVle.d rfl) ?_ | refine FrLe.cons rfl (AVle.ptr rfl) ?_ | refine FrLe.cons rfl (AVle.int (by rw [hs]; rfl)) ?_)) (by repeat (first | exact HpLe.nil | refine HpLe.cons (OwLe.varD (by rw [expE_set])) ?_ | refine HpLe.cons (OwLe.varD rfl) ?_))
    ·obtain rfl : i = min n 4 := by omega
     have hrm := i5At_mem hkX
     have hr0 := hX _ hrm 0 (by omega)
     have h4 := tmod4 (i5At X k 0)
     have h4' : -3 ≤ Int.tmod (X.getD k default 0) 4 ∧ Int.tmod (X.getD k default 0) 4 ≤ 3 := h4
     have hb := madeTo_take_pb X (min n 4) (terms := terms) h0 (Nat.le_of_lt hkt)
     have hbl := hb.len
     have ht := rawT_pb (min n 4) (i5At X k) h0
     have htl := ht.len
     have h1 := one_pb (expE_in (i5At X k) h0 (min n 4))
     have hz : (i5At X k 0).tmod 4 = IntKind.i64.wrap ((i5At X k 0).tmod 4) := (IntWalk.i64_in _ (by omega)).symm
     have hst : madeTo deg (min n 4) (X.take (k + 1)) = mrg (madeTo deg (min n 4) (X.take k)) (rawT deg (min n 4) (i5At X k)) := foldl_i5 (fun a r => mrg a (rawT deg (min n 4) r)) [] hkX
     rcases (show n ≤ 4 ∨ 4 < n by omega) with hn4 | hn4
     all_goals
      repeat (first | apply AWp.seq | apply AWp.region | (refine AWs.q rfl rfl ?_; first | (apply Gt.move; refine ⟨_, Qs.move (ao rfl), ?_⟩) | (apply Gt.bin; first | refine ⟨_, Qs.cmpT rfl (ao rfl) (ao rfl) (by first | (simp only [cmpP, List.length_cons, List.length_nil]; omega) | (simp [cmpP]; done) | (simp [cmpP]; omega)), ?_⟩ | refine ⟨_, Qs.cmpF rfl (ao rfl) (ao rfl) (by first | (simp only [cmpP, List.length_cons, List.length_nil]; omega) | (simp [cmpP]; done) | (simp [cmpP]; omega)), ?_⟩) | (apply Gt.pick; first | refine ⟨_, Qs.pickT (ao rfl) (ao rfl), ?_⟩ | refine ⟨_, Qs.pickF (ao rfl) (ao rfl), ?_⟩)) | refine AWs.sG rfl rfl rfl rfl rfl ?_ | (refine AWs.qG rfl rfl rfl rfl rfl ?_; first | (apply Gt.move; refine ⟨_, Qs.move (ao rfl), ?_⟩) | (apply Gt.bin; refine ⟨_, Qs.cmpF rfl (ao rfl) (ao rfl) (by first | (simp only [cmpP, List.length_cons, List.length_nil]; omega) | (simp [cmpP]; done) | (simp [cmpP]; omega)), ?_⟩)) | apply AWl.nil | apply AThen.normal | apply AWp.exit | apply AThen.exit | apply ABlock.hit | apply ALoop.exit | (apply Gc.cond; refine AWp.condF (ao rfl) ?_))
      refine AWp.dr' (DrawOk.self (by kernel_rfl)) [[], [], [(58, 1)], [], [(59, 2), (60, 3)], [(61, 4)], [(62, 5)], [(63, 6)], [(64, 7)], [(65, 8)], [], [], [(67, 10), (68, 11)], [(69, 12)], [(66, 9), (70, 13)], [(57, 0), (71, 14)]] [[], [], [1], [], [1, 2, 3], [1, 2, 3, 4], [1, 2, 3, 4, 5], [1, 2, 3, 4, 5, 6], [1, 2, 3, 4, 5, 6, 7], [1, 2, 3, 4, 5, 6, 7, 8], [1, 2, 3, 4, 5, 6, 7, 8, 9], [], [1, 2, 3, 4, 5, 6, 7, 8, 9, 10, 11], [1, 2, 3, 4, 5, 6, 7, 8, 9, 10, 11, 12], [1, 2, 3, 4, 5, 6, 7, 8, 9, 10, 11, 12, 13], [0, 1, 2, 3, 4, 5, 6, 7, 8, 9, 10, 11, 12, 13, 14]] rfl (by kernel_rfl) (by kernel_rfl) (by kernel_rfl) ?_
      repeat (first | refine ⟨_, rfl, ?_⟩ | (apply Gh.move; (refine ⟨_, HStep.q rfl (Qs.move (ah rfl)), ?_⟩; refine ⟨_, rfl, ?_⟩)) | (apply Gh.load; first | (refine ⟨_, HStep.q rfl (Qs.ldD (ah rfl) rfl (tab_of rfl) rfl rfl), ?_⟩; refine ⟨_, rfl, ?_⟩) | (refine ⟨_, HStep.q rfl (Qs.ldD1 (ah rfl) rfl (tab_of rfl) rfl rfl), ?_⟩; refine ⟨_, rfl, ?_⟩) | (refine ⟨_, HStep.q rfl (Qs.ldE1 (ah rfl) (tab_of rfl) rfl rfl), ?_⟩; refine ⟨_, rfl, ?_⟩)) | (apply Gh.fieldAddr; (refine ⟨_, HStep.q rfl (Qs.fldP (ah rfl) (tab_of rfl) rfl (tab_of rfl) rfl), ?_⟩; refine ⟨_, rfl, ?_⟩)) | (apply Gh.indexAddr; first | (refine ⟨_, HStep.q rfl (Qs.indexN rfl (ah rfl) (tab_of rfl) (tab_of rfl) rfl (by first | omega | (simp; omega))), ?_⟩; refine ⟨_, rfl, ?_⟩) | (refine ⟨_, HStep.q rfl (Qs.ixL (ah rfl) (ah rfl) (tab_of rfl) (tab_of rfl) (by decide) (by decide) rfl), ?_⟩; refine ⟨_, rfl, ?_⟩)) | (apply Gh.rem; (refine ⟨_, HStep.q rfl (Qs.remT (ah rfl) (ah rfl) (by decide)), ?_⟩; refine ⟨_, rfl, ?_⟩)) | (apply Gh.bslice; (refine ⟨_, HStep.q rfl (Bq.slice1 (ah rfl) (tab_of rfl) (tab_of rfl) rfl rfl rfl rfl rfl), ?_⟩; refine ⟨_, rfl, ?_⟩)) | (apply Gh.conv; (refine ⟨_, HStep.q rfl (Qs.conv64 (ah rfl) (tab_of rfl) (tab_of rfl) (by omega) (by omega)), ?_⟩; refine ⟨_, rfl, ?_⟩)) | (apply Gh.build; (refine Hq rfl ?_; refine Bq.build (tab_of rfl) rfl rfl rfl ?_; (repeat ((first | refine ⟨_, PartOk.ag (ah rfl), ?_⟩ | refine ⟨_, PartOk.one rfl (by first | exact One.ex_ rfl | exact One.sl | exact One.ep), ?_⟩); refine ⟨_, rfl, ?_⟩)); refine ⟨_, rfl, ?_⟩; refine ⟨_, rfl, ?_⟩)) | (apply Gh.callv; first | (refine ⟨_, HStep.q rfl (Qs.call (ah rfl) (RWhole_abs ((i5At X k 0).tmod 4) (by omega) (by omega)) (by first | ((repeat (first | exact ArgsLe.nil | refine ArgsLe.cons rfl (D.le.refl _) ?_ | refine ArgsLe.cons rfl D.le_nil ?_)); done) | fail)), ?_⟩; refine ⟨_, rfl, ?_⟩) | (refine ⟨_, HStep.q rfl (Qs.call (ah rfl) (RWhole_abs 1 (by omega) (by omega)) (by first | ((repeat (first | exact ArgsLe.nil | refine ArgsLe.cons rfl (D.le.refl _) ?_ | refine ArgsLe.cons rfl D.le_nil ?_)); done) | fail)), ?_⟩; refine ⟨_, rfl, ?_⟩) | (refine ⟨_, HStep.q rfl (Qs.call (ah rfl) (RScale_abs ((Int.tmod (i5At X k 0) 4 : Int) : Rat) [⟨1, expE deg (i5At X k) (min n 4)⟩] 1 1 (tmod_sz _) h1.sz (h1.ex.mono (Int.le_refl _) (by omega)) (by simp) (by omega)) (by first | ((repeat (first | exact ArgsLe.nil | refine ArgsLe.cons rfl (D.le.refl _) ?_ | refine ArgsLe.cons rfl D.le_nil ?_)); done) | fail)), ?_⟩; refine ⟨_, rfl, ?_⟩) | (refine ⟨_, HStep.q rfl (Qs.call (ah rfl) (RAdd_pol (madeTo deg (min n 4) (X.take k)) (rawT deg (min n 4) (i5At X k)) (terms * 3) 2 hb.sz ht.sz (by omega) (by omega)) (by first | ((repeat (first | exact ArgsLe.nil | refine ArgsLe.cons rfl (D.le.refl _) ?_ | refine ArgsLe.cons rfl D.le_nil ?_)); done) | fail)), ?_⟩; refine ⟨_, rfl, ?_⟩)))
      repeat (first | apply AWp.region | (refine AWs.q rfl rfl ?_; first | (apply Gt.move; refine ⟨_, Qs.move (ao rfl), ?_⟩) | (apply Gt.assign; refine ⟨_, Qs.assign (ao rfl), ?_⟩) | (apply Gt.add; refine ⟨_, Qs.succ (ao rfl) (ao rfl) (by omega), ?_⟩)) | apply AWl.nil | apply AThen.normal | apply ABlock.normal)
      refine ALoop.next (min X.length terms - (k + 1)) (by omega) ⟨k + 1, by omega, rfl, rfl⟩ ?_
      exact AS.le_of (by repeat (first | exact FrLe.nil | refine FrLe.cons rfl (AVle.d rfl) ?_ | refine FrLe.cons rfl (AVle.ptr rfl) ?_ | refine FrLe.cons rfl (AVle.le (D.le_pol hst.symm)) ?_)) (by repeat (first | exact HpLe.nil | refine HpLe.cons (OwLe.varD rfl) ?_))
  ·obtain rfl : k = min X.length terms := by omega
   rcases (show X.length ≤ terms ∨ terms < X.length by omega) with ht | ht
   all_goals
    repeat (first | apply AWp.seq | apply AWp.region | (refine AWs.q rfl rfl ?_; first | (apply Gt.move; refine ⟨_, Qs.move (ao rfl), ?_⟩) | (apply Gt.assign; refine ⟨_, Qs.assign (ao rfl), ?_⟩) | (apply Gt.load; refine ⟨_, Qs.ldD1 (ao rfl) rfl (tab_of rfl) rfl rfl, ?_⟩) | (apply Gt.fieldAddr; refine ⟨_, Qs.fldP (ao rfl) (tab_of rfl) rfl (tab_of rfl) rfl, ?_⟩) | (apply Gt.len; refine ⟨_, Qs.lenN rfl (tab_of rfl), ?_⟩) | (apply Gt.bin; first | refine ⟨_, Qs.cmpT rfl (ao rfl) (ao rfl) (by first | (simp only [cmpP, List.length_cons, List.length_nil]; omega) | (simp [cmpP]; done) | (simp [cmpP]; omega)), ?_⟩ | refine ⟨_, Qs.cmpF rfl (ao rfl) (ao rfl) (by first | (simp only [cmpP, List.length_cons, List.length_nil]; omega) | (simp [cmpP]; done) | (simp [cmpP]; omega)), ?_⟩) | (apply Gt.pick; first | refine ⟨_, Qs.pickT (ao rfl) (ao rfl), ?_⟩ | refine ⟨_, Qs.pickF (ao rfl) (ao rfl), ?_⟩)) | refine AWs.sG rfl rfl rfl rfl rfl ?_ | (refine AWs.qG rfl rfl rfl rfl rfl ?_; first | (apply Gt.move; refine ⟨_, Qs.move (ao rfl), ?_⟩) | (apply Gt.bin; refine ⟨_, Qs.cmpF rfl (ao rfl) (ao rfl) (by first | (simp only [cmpP, List.length_cons, List.length_nil]; omega) | (simp [cmpP]; done) | (simp [cmpP]; omega)), ?_⟩)) | apply AWl.nil | apply AThen.normal | apply AWp.exit | apply AWp.ret | apply AThen.exit | apply ABlock.hit | apply ALoop.exit | (apply Gc.cond; refine AWp.condF (ao rfl) ?_))
    exact Fin.ret (Rets.of1 (ResV.tmp rfl rfl) (D.le.refl _))
end Go.Proofs.YteicdddphdomkaaGreat
namespace Go.Proofs.YteicdddphdomkaaGreat
open Go.RowKit
theorem sub_sim {P Q P' Q' : List Tm} (h : Sim P P') (k : Sim Q Q') : Sim (psub P Q) (P' ++ neg Q') := (mrg_sim _ _).trans (h.append (neg_sim k))
theorem add_sim {P Q P' Q' : List Tm} (h : Sim P P') (k : Sim Q Q') : Sim (mrg P Q) (P' ++ Q') := (mrg_sim _ _).trans (h.append k)
theorem mul_sim {P Q P' Q' : List Tm} (h : Sim P P') (k : Sim Q Q') : Sim (pmul P Q) (mulL P' Q') := (pmul_sim _ _).trans (h.mul k)
theorem constL_one : constL (1 : Int) = [⟨1, fun _ => 0⟩] := by
 rw [constL, if_neg (by decide)]
 rfl
end Go.Proofs.YteicdddphdomkaaGreat
namespace Go.Proofs.YteicdddphdomkaaGreat
open Go.RowKit
set_option maxRecDepth 100000
theorem got_abs (P : List Tm) : Abs Tryz.prog 17 [polD P, ex (.int .i64 0)] (polD P) := by
 refine Abs.intro Tryz.func17 rfl (callFunc_run Tryz.func17 (by kernel_rfl) (by kernel_rfl)) rfl fun s0 => ?_
 rw [Tryz.ntmps17]
 repeat (first | apply AWp.seq | apply AWp.region | (refine AWs.q rfl rfl ?_; first | (apply Gt.move; refine ⟨_, Qs.move (ao rfl), ?_⟩) | (apply Gt.assign; refine ⟨_, Qs.assign (ao rfl), ?_⟩) | (apply Gt.bin; refine ⟨_, Qs.cmpF rfl (ao rfl) (ao rfl) (by first | (simp only [cmpP, List.length_cons, List.length_nil]; omega) | (simp [cmpP]; done) | (simp [cmpP]; omega)), ?_⟩)) | apply AWl.nil | apply AThen.normal | apply AWp.skip | apply AWp.ret | (apply Gc.cond; refine AWp.condF (ao rfl) ?_))
 exact Fin.ret (Rets.of1 (ResV.tmp rfl rfl) (D.le.refl _))
theorem poly_abs (T : Nat) (X : List (Nat → Int)) (hX : Raw8 X) : Abs Tryz.prog 16 [agD [r5D T X]] (polD (madeP X 4 5 6)) := by
 refine Abs.intro Tryz.func16 rfl (callFunc_run Tryz.func16 (by kernel_rfl) (by kernel_rfl)) rfl fun s0 => ?_
 rw [Tryz.ntmps16]
 repeat (first | apply AWp.seq | apply AWp.region | (apply Ga.box; refine AWs.bx (ao rfl) rfl rfl rfl rfl ?_) | (refine AWs.q rfl rfl ?_; first | (apply Gt.assign; refine ⟨_, Qs.assign (ao rfl), ?_⟩) | (apply Gt.load; refine ⟨_, Qs.ldD (ao rfl) rfl (tab_of rfl) rfl rfl, ?_⟩) | (apply Gt.callv; refine ⟨_, Qs.call (ao rfl) (RMade_abs T X 4 6 5 hX (by omega) (by omega) (by omega) (by omega)) (by first | ((repeat (first | exact ArgsLe.nil | refine ArgsLe.cons rfl (D.le.refl _) ?_ | refine ArgsLe.cons rfl D.le_nil ?_)); done) | fail), ?_⟩)) | apply AWl.nil | apply AThen.normal | apply AWp.ret)
 exact Fin.ret (Rets.of1 (ResV.tmp rfl rfl) (D.le.refl _))
def xT : Tm := ⟨1, unitE 0⟩
def yT : Tm := ⟨1, unitE 1⟩
def yyT : Tm := ⟨1 * 1, add8 (unitE 1) (unitE 1)⟩
theorem var_pb (i : Nat) : PB [⟨1, unitE i⟩] 1 1 1 := one_pb unitE_in
theorem one_pol : PB (constL (1 : Int)) 1 1 1 := constL_pb (rsz_sm (by omega) (by omega)) (by omega)
theorem pmul_yy : pmul [yT] [yT] = [yyT] := by
 show mrg [] [yyT] = [yyT]
 rw [nil_mrg]
theorem sum_xyy : mrg [xT] [yyT] = [xT, yyT] := by
 rw [mrg_gt (show lx xT.m yyT.m = 1 by decide), nil_mrg]
theorem yy_pb : PB [yyT] 1 3 2 := by
 rw [← pmul_yy]
 exact (var_pb 1).mul (var_pb 1) (by omega) (by omega)
theorem ones_in (i : Nat) (hi : i < 8) : -1000 ≤ onesOf 255 i ∧ onesOf 255 i ≤ 1000 := by
 unfold onesOf
 omega
theorem lead_xyy : leadF [onesOf 255] xT [yyT] = yyT := by
 show upT [onesOf 255] xT yyT = yyT
 rw [upT, if_pos (by decide)]
theorem square_sim : Sim (pmul (mrg [xT] (constL (1 : Int))) (psub [xT] (constL (1 : Int)))) (psub (pmul [xT] [xT]) (constL (1 : Int))) := by
 refine (mul_sim (add_sim (Sim.refl _) (Sim.refl _)) (sub_sim (Sim.refl _) (Sim.refl _))).trans (Sim.symm ((sub_sim (pmul_sim _ _) (Sim.refl _)).trans ?_))
 intro f hf
 rw [constL_one]
 simp only [mulL, neg, fT, xT, List.map_cons, List.map_nil, List.flatMap_cons, List.flatMap_nil, List.cons_append, List.nil_append, dot]
 rw [add8_zero, zero_add8, add8_zero]
 grind
set_option maxHeartbeats 2000000 in
theorem sanity_abs : Abs Tryz.prog 13 [] (ex (.bool true)) := by
 have hx := var_pb 0
 have hy := var_pb 1
 have h1 := one_pol
 have ha := hx.add h1
 have hs := hx.sub h1
 have hm := ha.mul hs (by omega) (by omega)
 have hxx := hx.mul hx (by omega) (by omega)
 have hd := hxx.sub h1
 have cyy := PMul_pb hy hy (by omega) (by omega) (by omega) (by omega) (by omega)
 rw [show pmul [⟨1, unitE 1⟩] [⟨1, unitE 1⟩] = [yyT] from pmul_yy] at cyy
 have csum := PAdd_pb hx yy_pb (by omega) (by omega)
 rw [show mrg [⟨1, unitE 0⟩] [yyT] = [xT, yyT] from sum_xyy] at csum
 have clead := PLead_abs xT [yyT] [onesOf 255] (fun r hr => by rw [List.mem_singleton.1 hr]; exact fun i hi => ones_in i hi) ((show PIn [xT, yyT] 0 2 from fun t ht => by
  rcases List.mem_cons.1 ht with rfl | ht
  ·exact (hx.ex _ (by simp [xT])).mono (by omega) (by omega)
  ·exact yy_pb.ex t ht).mono (by omega) (by omega)) (by simp)
 rw [lead_xyy] at clead
 have csq := RSame_sim hm.can hd.can square_sim
 have cval := PValid_pb hm (by omega) (by omega) (by omega)
 refine Abs.intro Tryz.func13 rfl (callFunc_run Tryz.func13 (by kernel_rfl) (by kernel_rfl)) rfl fun s0 => ?_
 rw [Tryz.ntmps13]
 have hyy : eqB yyT.m (fun i => ([0, 2] : List Int).getD i 0) = true := by decide
 repeat (first | refine AWs.qG rfl rfl rfl rfl rfl ?_; refine ⟨_, Qs.eqMonT (a := yyT.m) (b := fun i => ([0, 2] : List Int).getD i 0) (ao rfl) (ao rfl) hyy, ?_⟩ | apply AWp.seq | apply AWp.region | (apply Ga.alloc; refine AWs.al (tab_of rfl) rfl rfl rfl rfl rfl rfl ?_) | (apply Ga.store; refine AWs.stF (ao rfl) (ao rfl) rfl (tab_of rfl) rfl rfl rfl ?_) | (refine AWs.q rfl rfl ?_; first | (apply Gt.move; refine ⟨_, Qs.move (ao rfl), ?_⟩) | (apply Gt.assign; refine ⟨_, Qs.assign (ao rfl), ?_⟩) | (apply Gt.bin; refine ⟨_, Qs.cmpF rfl (ao rfl) (ao rfl) (by first | (simp only [cmpP, List.length_cons, List.length_nil]; omega) | (simp [cmpP]; done) | (simp [cmpP]; omega)), ?_⟩) | (apply Gt.ext; refine ⟨_, Qs.ext (ao rfl) rfl, ?_⟩) | (apply Gt.pick; first | refine ⟨_, Qs.pickT (ao rfl) (ao rfl), ?_⟩ | refine ⟨_, Qs.pickF (ao rfl) (ao rfl), ?_⟩) | (apply Gt.callv; first | refine ⟨_, Qs.call (ao rfl) (PVar_abs 0 (by omega)) (by first | ((repeat (first | exact ArgsLe.nil | refine ArgsLe.cons rfl (D.le.refl _) ?_ | refine ArgsLe.cons rfl D.le_nil ?_)); done) | fail), ?_⟩ | refine ⟨_, Qs.call (ao rfl) (PVar_abs 1 (by omega)) (by first | ((repeat (first | exact ArgsLe.nil | refine ArgsLe.cons rfl (D.le.refl _) ?_ | refine ArgsLe.cons rfl D.le_nil ?_)); done) | fail), ?_⟩ | refine ⟨_, Qs.call (ao rfl) (RWhole_abs 1 (by omega) (by omega)) (by first | ((repeat (first | exact ArgsLe.nil | refine ArgsLe.cons rfl (D.le.refl _) ?_ | refine ArgsLe.cons rfl D.le_nil ?_)); done) | fail), ?_⟩ | refine ⟨_, Qs.call (ao rfl) (PConst_abs (1 : Int)) (by first | ((repeat (first | exact ArgsLe.nil | refine ArgsLe.cons rfl (D.le.refl _) ?_ | refine ArgsLe.cons rfl D.le_nil ?_)); done) | fail), ?_⟩ | refine ⟨_, Qs.call (ao rfl) (RX_abs 0 (by omega)) (by first | ((repeat (first | exact ArgsLe.nil | refine ArgsLe.cons rfl (D.le.refl _) ?_ | refine ArgsLe.cons rfl D.le_nil ?_)); done) | fail), ?_⟩ | refine ⟨_, Qs.call (ao rfl) (RInt_abs 1 (by omega) (by omega)) (by first | ((repeat (first | exact ArgsLe.nil | refine ArgsLe.cons rfl (D.le.refl _) ?_ | refine ArgsLe.cons rfl D.le_nil ?_)); done) | fail), ?_⟩ | refine ⟨_, Qs.call (ao rfl) (PAdd_pb hx h1 (by omega) (by omega)) (by first | ((repeat (first | exact ArgsLe.nil | refine ArgsLe.cons rfl (D.le.refl _) ?_ | refine ArgsLe.cons rfl D.le_nil ?_)); done) | fail), ?_⟩ | refine ⟨_, Qs.call (ao rfl) (PSub_pb hx h1 (by omega) (by omega)) (by first | ((repeat (first | exact ArgsLe.nil | refine ArgsLe.cons rfl (D.le.refl _) ?_ | refine ArgsLe.cons rfl D.le_nil ?_)); done) | fail), ?_⟩ | refine ⟨_, Qs.call (ao rfl) (PMul_pb ha hs (by omega) (by omega) (by omega) (by omega) (by omega)) (by first | ((repeat (first | exact ArgsLe.nil | refine ArgsLe.cons rfl (D.le.refl _) ?_ | refine ArgsLe.cons rfl D.le_nil ?_)); done) | fail), ?_⟩ | refine ⟨_, Qs.call (ao rfl) (got_abs _) (by first | ((repeat (first | exact ArgsLe.nil | refine ArgsLe.cons rfl (D.le.refl _) ?_ | refine ArgsLe.cons rfl D.le_nil ?_)); done) | fail), ?_⟩ | refine ⟨_, Qs.call (ao rfl) (cyy) (by first | ((repeat (first | exact ArgsLe.nil | refine ArgsLe.cons rfl (D.le.refl _) ?_ | refine ArgsLe.cons rfl D.le_nil ?_)); done) | fail), ?_⟩ | refine ⟨_, Qs.call (ao rfl) (csum) (by first | ((repeat (first | exact ArgsLe.nil | refine ArgsLe.cons rfl (D.le.refl _) ?_ | refine ArgsLe.cons rfl D.le_nil ?_)); done) | fail), ?_⟩ | refine ⟨_, Qs.call (ao rfl) (RGraded_abs) (by first | ((repeat (first | exact ArgsLe.nil | refine ArgsLe.cons rfl (D.le.refl _) ?_ | refine ArgsLe.cons rfl D.le_nil ?_)); done) | fail), ?_⟩ | refine ⟨_, Qs.call (ao rfl) (clead) (by first | ((repeat (first | exact ArgsLe.nil | refine ArgsLe.cons rfl (D.le.refl _) ?_ | refine ArgsLe.cons rfl D.le_nil ?_)); done) | fail), ?_⟩ | refine ⟨_, Qs.call (ao rfl) (RLex_abs) (by first | ((repeat (first | exact ArgsLe.nil | refine ArgsLe.cons rfl (D.le.refl _) ?_ | refine ArgsLe.cons rfl D.le_nil ?_)); done) | fail), ?_⟩ | refine ⟨_, Qs.call (ao rfl) (PLead0_abs []) (by first | ((repeat (first | exact ArgsLe.nil | refine ArgsLe.cons rfl (D.le.refl _) ?_ | refine ArgsLe.cons rfl D.le_nil ?_)); done) | fail), ?_⟩ | refine ⟨_, Qs.call (ao rfl) (RBy_pb hx hx (by omega) (by omega) (by omega) (by omega) (by omega) (by omega)) (by first | ((repeat (first | exact ArgsLe.nil | refine ArgsLe.cons rfl (D.le.refl _) ?_ | refine ArgsLe.cons rfl D.le_nil ?_)); done) | fail), ?_⟩ | refine ⟨_, Qs.call (ao rfl) (RSub_pb hxx h1 (by omega) (by omega) (by omega)) (by first | ((repeat (first | exact ArgsLe.nil | refine ArgsLe.cons rfl (D.le.refl _) ?_ | refine ArgsLe.cons rfl D.le_nil ?_)); done) | fail), ?_⟩ | refine ⟨_, Qs.call (ao rfl) (csq) (by first | ((repeat (first | exact ArgsLe.nil | refine ArgsLe.cons rfl (D.le.refl _) ?_ | refine ArgsLe.cons rfl D.le_nil ?_)); done) | fail), ?_⟩)) | (refine AWs.qG rfl rfl rfl rfl rfl ?_; first | (apply Gt.move; refine ⟨_, Qs.move (ao rfl), ?_⟩) | (apply Gt.load; refine ⟨_, Qs.ldD (ao rfl) rfl (tab_of rfl) rfl rfl, ?_⟩) | (apply Gt.fieldAddr; refine ⟨_, Qs.fldP (ao rfl) (tab_of rfl) rfl (tab_of rfl) rfl, ?_⟩) | (apply Gt.bin; first | refine ⟨_, Qs.cmpF rfl (ao rfl) (ao rfl) (by first | (simp only [cmpP, List.length_cons, List.length_nil]; omega) | (simp [cmpP]; done) | (simp [cmpP]; omega)), ?_⟩ | refine ⟨_, Qs.cmp (ao rfl) (ao rfl) rfl, ?_⟩) | (apply Gt.un; refine ⟨_, Qs.not (ao rfl), ?_⟩) | (apply Gt.build; (refine Bq.arr (tab_of rfl) (tab_of rfl) rfl rfl ?_; (repeat ((first | refine ⟨_, PartOk.ag (ao rfl), ?_⟩ | refine ⟨_, PartOk.one rfl (by first | exact One.ex_ rfl | exact One.sl | exact One.ep), ?_⟩); refine ⟨_, rfl, ?_⟩)); refine ⟨_, rfl, ?_⟩)) | (apply Gt.callv; first | refine ⟨_, Qs.call (ao rfl) (RX_abs 0 (by omega)) (by first | ((repeat (first | exact ArgsLe.nil | refine ArgsLe.cons rfl (D.le.refl _) ?_ | refine ArgsLe.cons rfl D.le_nil ?_)); done) | fail), ?_⟩ | refine ⟨_, Qs.call (ao rfl) (RX_abs 1 (by omega)) (by first | ((repeat (first | exact ArgsLe.nil | refine ArgsLe.cons rfl (D.le.refl _) ?_ | refine ArgsLe.cons rfl D.le_nil ?_)); done) | fail), ?_⟩ | refine ⟨_, Qs.call (ao rfl) (RSame_true (SameL.refl [⟨1, unitE 0⟩])) (by first | ((repeat (first | exact ArgsLe.nil | refine ArgsLe.cons rfl (D.le.refl _) ?_ | refine ArgsLe.cons rfl D.le_nil ?_)); done) | fail), ?_⟩ | refine ⟨_, Qs.call (ao rfl) (RSame_true (SameL.refl [⟨1, unitE 1⟩])) (by first | ((repeat (first | exact ArgsLe.nil | refine ArgsLe.cons rfl (D.le.refl _) ?_ | refine ArgsLe.cons rfl D.le_nil ?_)); done) | fail), ?_⟩ | refine ⟨_, Qs.call (ao rfl) (RSame_true (SameL.refl (constL (1 : Int)))) (by first | ((repeat (first | exact ArgsLe.nil | refine ArgsLe.cons rfl (D.le.refl _) ?_ | refine ArgsLe.cons rfl D.le_nil ?_)); done) | fail), ?_⟩ | refine ⟨_, Qs.call (ao rfl) (RInt_abs 1 (by omega) (by omega)) (by first | ((repeat (first | exact ArgsLe.nil | refine ArgsLe.cons rfl (D.le.refl _) ?_ | refine ArgsLe.cons rfl D.le_nil ?_)); done) | fail), ?_⟩ | refine ⟨_, Qs.call (ao rfl) (cval) (by first | ((repeat (first | exact ArgsLe.nil | refine ArgsLe.cons rfl (D.le.refl _) ?_ | refine ArgsLe.cons rfl D.le_nil ?_)); done) | fail), ?_⟩ | refine ⟨_, Qs.call (ao rfl) (PDeg_abs [] (fun t h => (by cases h)) (by simp)) (by first | ((repeat (first | exact ArgsLe.nil | refine ArgsLe.cons rfl (D.le.refl _) ?_ | refine ArgsLe.cons rfl D.le_nil ?_)); done) | fail), ?_⟩)) | apply AWl.nil | apply AThen.normal | apply AWp.skip | apply AWp.ret | (apply Gc.cond; refine AWp.condF (ao rfl) ?_))
 exact Fin.ret (Rets.of1 (ResV.tmp rfl rfl) (D.le.refl _))
end Go.Proofs.YteicdddphdomkaaGreat
namespace Go.Proofs.YteicdddphdomkaaGreat
open Go.RowKit
set_option maxRecDepth 100000
theorem len_sm {z : Int} (h0 : -100000 ≤ z) (h1 : z ≤ 100000) : (digs z.natAbs).length ≤ 1 := len_of_lt (by simp only [BB, Nat.pow_one]; omega)
theorem RDivZ_abs (z w : Int) (h0 : -1000 ≤ z) (h1 : z ≤ 1000) (h2 : 0 < w) (h3 : w ≤ 1000) : Abs Tryz.prog 84 [agD (ratC (z : Rat)), agD (ratC (w : Rat))] (tupD [agD (ratC (Rat.divInt (z * 1) (1 * w))), ex (.int .i64 0)]) := by
 have l1 := len_sm (z := z) (by omega) (by omega)
 have l2 := len_sm (z := w) (by omega) (by omega)
 have l3 := len_sm (z := z * 1) (by omega) (by omega)
 have l4 := len_sm (z := 1 * w) (by omega) (by omega)
 have l5 := len_sm (z := 1) (by omega) (by omega)
 refine Abs.intro Tryz.func84 rfl (callFunc_run Tryz.func84 (by kernel_rfl) (by kernel_rfl)) rfl fun s0 => ?_
 rw [Tryz.ntmps84]
 apply AWp.seq; apply AWp.region; refine AWs.bx (ao rfl) rfl rfl rfl rfl ?_; refine AWs.bx (ao rfl) rfl rfl rfl rfl ?_; refine AWs.al (tab_of rfl) rfl rfl rfl rfl rfl rfl ?_; refine Wq Qz.assign ?_; apply AWl.nil; apply AThen.normal; apply AWp.seq
 refine AWp.dr' (DrawOk.self (by kernel_rfl)) [[], [(6, 0)], [], [(8, 2)], [(7, 1), (9, 3)], [], [(11, 5)], [], [(13, 7)], [(12, 6), (14, 8)], [(10, 4), (15, 9)], [(16, 10)], [(16, 10)]] [[], [0], [], [2], [0, 1, 2, 3], [], [5], [], [7], [0, 1, 2, 3, 4, 5, 6, 7, 8], [0, 1, 2, 3, 4, 5, 6, 7, 8, 9], [0, 1, 2, 3, 4, 5, 6, 7, 8, 9, 10], [0, 1, 2, 3, 4, 5, 6, 7, 8, 9, 10]] rfl (by kernel_rfl) (by kernel_rfl) (by kernel_rfl) ?_
 refine Xq Qz.fldP ?_; refine Xq Qz.ldD ?_; refine Xq Qz.fldP ?_; refine Xq Qz.ldD ?_; refine Xq (Qz.call (IMul_abs z 1 (by omega) (by omega))) ?_; refine Xq Qz.fldP ?_; refine Xq Qz.ldD ?_; refine Xq Qz.fldP ?_; refine Xq Qz.ldD ?_; refine Xq (Qz.call (IMul_abs 1 w (by omega) (by omega))) ?_; refine Xq (Qz.call (RNew_abs (z * 1) (1 * w) (by omega) (by omega) (by omega))) ?_; refine Xq Qz.ext ?_; refine Xq Qz.ext ?_; refine ⟨_, rfl, ?_⟩
 refine AWs.stF (ao rfl) (ao rfl) rfl (tab_of rfl) rfl rfl rfl ?_; refine Wq Qz.assign ?_; apply AWl.nil; apply AThen.normal; apply AWp.ret
 exact Fin.ret (Rets.of2 (ResV.cell rfl rfl (tab_of rfl) rfl rfl rfl) (ResV.tmp rfl rfl) (D.le.tup2 (D.le.refl _) (D.le.refl _)))
open Classical in
theorem RrValidT_abs (q : Rat) (N : Nat) (h : RSz q N) (hN : N ≤ 1000000000) : Abs Tryz.prog 28 [agD (ratC q)] (ex (.bool true)) := by
 have hq : QOk (decide (q.num < 0)) (digs q.num.natAbs) (decide ((q.den : Int) < 0)) (digs (q.den : Int).natAbs) := ⟨q, rfl, rfl, rfl, rfl⟩
 have := RrValid_abs (decide (q.num < 0)) (digs q.num.natAbs) (decide ((q.den : Int) < 0)) (digs (q.den : Int).natAbs) (small_digs _) (small_digs _) (Nat.le_trans h.1 hN) (Nat.le_trans h.2 hN)
 rw [decide_eq_true hq] at this
 exact this
def atX (l : Nat → Int) : Nat → Rat := fun i => if i < 4 then Rat.divInt (Int.tmod (l i) 5 * 1) (1 * ((i + 1 : Nat) : Int)) else ((0 : Int) : Rat)
theorem tmod5 (z : Int) : -4 ≤ Int.tmod z 5 ∧ Int.tmod z 5 ≤ 4 := by
 rcases Int.le_total 0 z with h | h
 ·rw [Int.tmod_eq_emod_of_nonneg h]; omega
 ·have : Int.tmod z 5 = -((-z) % 5) := by
   rw [← Int.tmod_eq_emod_of_nonneg (by omega), Int.neg_tmod, Int.neg_neg]
  omega
theorem atX_sz (l : Nat → Int) (i : Nat) : RSz (atX l i) 1 := by
 unfold atX
 split
 ·have h5 := tmod5 (l i)
  exact RSz.divInt (by omega) (len_sm (by omega) (by omega)) (len_sm (by omega) (by omega))
 ·exact rsz_sm (by omega) (by omega)
def atR (l : Nat → Int) (k : Nat) : Nat → List D := fun j => if j < k then ratC (atX l j) else zr4
theorem atR_len (l : Nat → Int) (k j : Nat) : (atR l k j).length = 4 := by
 unfold atR
 split <;> rfl
theorem atR_set (l : Nat → Int) (k : Nat) (es : List D) (h : es = ratC (atX l k)) : setR (atR l k) k es = atR l (k + 1) := by
 funext j
 simp only [setR, atR]
 rcases Nat.lt_trichotomy j k with h1 | h1 | h1
 ·rw [if_neg (by omega), if_pos h1, if_pos (by omega)]
 ·subst h1; rw [if_pos rfl, if_pos (by omega), h]
 ·rw [if_neg (by omega), if_neg (by omega), if_neg (by omega)]
theorem setR_set (r : Nat → List D) (k : Nat) (a b : List D) : setR (setR r k a) k b = setR r k b := by
 funext j
 simp only [setR]
 split <;> rfl
def i4C (l : Nat → Int) : List D := [ex (.int .i8 (l 0)), ex (.int .i8 (l 1)), ex (.int .i8 (l 2)), ex (.int .i8 (l 3))]
theorem CellAt.i4 {l : Nat → Int} {k : Nat} (h : k < 4) : CellAt (i4C l) (0 + k * 1) (ex (.int .i8 (l k))) := by
 rw [Nat.zero_add, Nat.mul_one]
 refine ⟨h, ?_⟩
 match k, h with
 | 0, _ => rfl
 | 1, _ => rfl
 | 2, _ => rfl
 | 3, _ => rfl
theorem at_abs (l : Nat → Int) : Abs Tryz.prog 26 [agD (i4C l)] (agD (ptC (atX l))) := by
 refine Abs.intro Tryz.func26 rfl (callFunc_run Tryz.func26 (by kernel_rfl) (by kernel_rfl)) rfl fun s0 => ?_
 rw [Tryz.ntmps26]
 apply AWp.seq; apply AWp.region; refine AWs.bx (ao rfl) rfl rfl rfl rfl ?_; refine AWs.al (tab_of rfl) rfl rfl rfl rfl rfl rfl ?_; apply AWl.nil; apply AThen.normal; apply AWp.seq; apply AWp.region; (refine AWs.q rfl rfl ?_; (refine Bq.arr (tab_of rfl) (tab_of rfl) rfl rfl ?_; (repeat ((first | refine ⟨_, PartOk.ag (ao rfl), ?_⟩ | refine ⟨_, PartOk.one rfl (by first | exact One.ex_ rfl | exact One.sl | exact One.ep), ?_⟩); refine ⟨_, rfl, ?_⟩)); refine ⟨_, rfl, ?_⟩)); refine AWs.al (tab_of rfl) rfl rfl rfl rfl rfl rfl ?_; refine AWs.stF (ao rfl) (ao rfl) rfl (tab_of rfl) rfl rfl rfl ?_; apply AWl.nil; apply AThen.normal; apply AWp.seq; apply AWp.seq; apply AWp.region; refine Wq Qz.assign ?_; apply AWl.nil; apply AThen.normal; apply AWp.block
 refine AWp.loop (fun mz σ => ∃ k, k ≤ 8 ∧ mz = 8 - k ∧ σ = ⟨[(1, .ptr 0 0), (2, .ptr 1 0), (3, .ptr 2 0), (4, .d (ex (.int .i64 (k : Nat))))], [.var 53 ((i4C l).map .d), .var 54 ((ptD fun _ => zr4).map .d), .var 54 ((ptD (atR l k)).map .d)]⟩) ?le ⟨0, by omega, rfl, rfl⟩ ?round
 case le => exact AS.le_of (by refine FrLe.cons rfl (AVle.ptr rfl) ?_; refine FrLe.cons rfl (AVle.ptr rfl) ?_; refine FrLe.cons rfl (AVle.ptr rfl) ?_; refine FrLe.cons rfl (AVle.d rfl) ?_; exact FrLe.nil) (by refine HpLe.cons (OwLe.varD rfl) ?_; refine HpLe.cons (OwLe.varD rfl) ?_; refine HpLe.cons (OwLe.varD rfl) ?_; exact HpLe.nil)
 case round =>
  rintro mz _ ⟨k, hk, rfl, rfl⟩
  by_cases hlt : k < 8
  ·have h5 := tmod5 (l k)
   by_cases h4 : k < 4
   ·apply AWp.seq; apply AWp.seq; apply AWp.region; refine Wq Qz.move ?_; refine Wq Qz.cmpT ?_; apply AWl.nil; apply AThen.normal; refine AWp.condT (ao rfl) ?_; apply AWp.skip; apply AThen.normal; apply AWp.seq; apply AWp.block; apply AWp.seq; apply AWp.region; refine Wq Qz.move ?_; refine Wq (Qz.call (RWhole_abs 0 (by omega) (by omega))) ?_; refine Wq Qz.ixP ?_; refine AWs.stX (ao rfl) (ao rfl) rfl (tab_of rfl) rfl (SetAt.pt (atR_len l k) hlt rfl) rfl ?_; apply AWl.nil; apply AThen.normal; apply AWp.seq; apply AWp.region; refine Wq Qz.move ?_; refine Wq Qz.cmpT ?_; apply AWl.nil; apply AThen.normal; refine AWp.condT (ao rfl) ?_; apply AWp.seq; apply AWp.region; refine Wq Qz.move ?_; refine Wq Qz.ixP ?_; (refine AWs.q rfl rfl ?_; refine ⟨_, Qs.ldX1 (ao rfl) rfl (tab_of rfl) rfl (CellAt.i4 h4), ?_⟩); refine Wq Qz.remT ?_; refine Wq Qz.conv64 ?_; refine Wq (Qz.call (RWhole_abs (Int.tmod (l k) 5) (by omega) (by omega))) ?_; refine Wq Qz.move ?_; refine Wq Qz.succL ?_; refine Wq (Qz.call (RWhole_abs ((k + 1 : Nat) : Int) (by omega) (by omega))) ?_; refine Wq (Qz.call (RDivZ_abs (Int.tmod (l k) 5) ((k + 1 : Nat) : Int) (by omega) (by omega) (by omega) (by omega))) ?_; refine Wq Qz.move ?_; refine Wq Qz.ext ?_; refine Wq Qz.ext ?_; refine AWs.al (tab_of rfl) rfl rfl rfl rfl rfl rfl ?_; refine AWs.stF (ao rfl) (ao rfl) rfl (tab_of rfl) rfl rfl rfl ?_; refine Wq Qz.assign ?_; apply AWl.nil; apply AThen.normal; apply AWp.region; refine Wq Qz.move ?_; refine Wq Qz.ldD ?_; refine Wq Qz.ixP ?_; refine AWs.stX (ao rfl) (ao rfl) rfl (tab_of rfl) rfl (SetAt.pt (setR_len (atR_len l k) rfl) hlt rfl) rfl ?_; apply AWl.nil; apply ABlock.normal; apply AThen.normal; apply AWp.region; refine Wq Qz.move ?_; refine Wq Qz.succ ?_; refine Wq Qz.assign ?_; apply AWl.nil
    refine ALoop.next (8 - (k + 1)) (by omega) ⟨k + 1, by omega, rfl, rfl⟩ ?_
    exact AS.le_of (by refine FrLe.cons rfl (AVle.ptr rfl) ?_; refine FrLe.cons rfl (AVle.ptr rfl) ?_; refine FrLe.cons rfl (AVle.ptr rfl) ?_; refine FrLe.cons rfl (AVle.d rfl) ?_; exact FrLe.nil) (by refine HpLe.cons (OwLe.varD rfl) ?_; refine HpLe.cons (OwLe.varD rfl) ?_; (refine HpLe.cons (OwLe.varD (by rw [setR_set, atR_set l k _ (by rw [atX, if_pos h4]; rfl)])) ?_); exact HpLe.nil)
   ·apply AWp.seq; apply AWp.seq; apply AWp.region; refine Wq Qz.move ?_; refine Wq Qz.cmpT ?_; apply AWl.nil; apply AThen.normal; refine AWp.condT (ao rfl) ?_; apply AWp.skip; apply AThen.normal; apply AWp.seq; apply AWp.block; apply AWp.seq; apply AWp.region; refine Wq Qz.move ?_; refine Wq (Qz.call (RWhole_abs 0 (by omega) (by omega))) ?_; refine Wq Qz.ixP ?_; refine AWs.stX (ao rfl) (ao rfl) rfl (tab_of rfl) rfl (SetAt.pt (atR_len l k) hlt rfl) rfl ?_; apply AWl.nil; apply AThen.normal; apply AWp.seq; apply AWp.region; refine Wq Qz.move ?_; refine Wq Qz.cmpF ?_; apply AWl.nil; apply AThen.normal; refine AWp.condF (ao rfl) ?_; apply AWp.skip; apply ABlock.normal; apply AThen.normal; apply AWp.region; refine Wq Qz.move ?_; refine Wq Qz.succ ?_; refine Wq Qz.assign ?_; apply AWl.nil
    refine ALoop.next (8 - (k + 1)) (by omega) ⟨k + 1, by omega, rfl, rfl⟩ ?_
    exact AS.le_of (by refine FrLe.cons rfl (AVle.ptr rfl) ?_; refine FrLe.cons rfl (AVle.ptr rfl) ?_; refine FrLe.cons rfl (AVle.ptr rfl) ?_; refine FrLe.cons rfl (AVle.d rfl) ?_; exact FrLe.nil) (by refine HpLe.cons (OwLe.varD rfl) ?_; refine HpLe.cons (OwLe.varD rfl) ?_; refine HpLe.cons (OwLe.varD (by rw [atR_set l k _ (by rw [atX, if_neg h4])])) ?_; exact HpLe.nil)
  ·obtain rfl : k = 8 := by omega
   apply AWp.seq; apply AWp.seq; apply AWp.region; refine Wq Qz.move ?_; refine Wq Qz.cmpF ?_; apply AWl.nil; apply AThen.normal; refine AWp.condF (ao rfl) ?_; apply AWp.exit; apply AThen.exit; apply ALoop.exit; apply ABlock.hit; apply AThen.normal; apply AWp.seq; apply AWp.region; refine Wq Qz.ldD ?_; refine AWs.stF (ao rfl) (ao rfl) rfl (tab_of rfl) rfl rfl rfl ?_; apply AWl.nil; apply AThen.normal; apply AWp.ret
   exact Fin.ret (Rets.of1 (ResV.cell rfl rfl (tab_of rfl) rfl rfl rfl) (D.le.refl _))
end Go.Proofs.YteicdddphdomkaaGreat
namespace Go.Proofs.YteicdddphdomkaaGreat
open Go.RowKit
set_option maxRecDepth 100000
theorem monV_congr {x : Nat → Rat} {a b : Nat → Int} (h : Eqv a b) : ∀ i, i ≤ 8 → monV x a i = monV x b i
 | 0, _ => rfl
 | i + 1, hi => by rw [monV, monV, monV_congr h i (by omega), h i (by omega)]
theorem monV_resp (x : Nat → Rat) : Resp fun m => monV x m 8 := fun _ _ h => monV_congr h 8 (by omega)
theorem evF_dot (x : Nat → Rat) : ∀ (P : List Tm) (s : Rat), P.foldl (fun s t => s + tvX x t 8) s = s + dot (fun m => monV x m 8) P
 | [], s => by simp only [List.foldl_nil, dot]; grind
 | t :: P, s => by
  rw [List.foldl_cons, evF_dot x P]
  simp only [dot, tvX]
  grind
theorem evF_eq (x : Nat → Rat) (P : List Tm) : evF x P = dot (fun m => monV x m 8) P := by
 rw [evF, evF_dot]; grind
theorem rat_pow_add (x : Rat) (m : Nat) : ∀ n, x ^ (m + n) = x ^ m * x ^ n
 | 0 => by rw [Nat.add_zero, Rat.pow_zero]; grind
 | n + 1 => by rw [← Nat.add_assoc, Rat.pow_succ, Rat.pow_succ, rat_pow_add x m n]; grind
theorem monV_add {x : Nat → Rat} {a b : Nat → Int} (ha : ∀ i, i < 8 → 0 ≤ a i) (hb : ∀ i, i < 8 → 0 ≤ b i) : ∀ i, i ≤ 8 → monV x (add8 a b) i = monV x a i * monV x b i
 | 0, _ => by simp only [monV]; grind
 | i + 1, hi => by
  have h1 := ha i (by omega)
  have h2 := hb i (by omega)
  have e : (add8 a b i).toNat = (a i).toNat + (b i).toNat := by simp only [add8]; omega
  rw [monV, monV, monV, monV_add ha hb i (by omega), e, rat_pow_add]
  grind
theorem evF_add (x : Nat → Rat) (P Q : List Tm) : evF x (mrg P Q) = evF x P + evF x Q := by
 rw [evF_eq, evF_eq, evF_eq, mrg_sim _ _ _ (monV_resp x), dot_append]
theorem evF_mul {x : Nat → Rat} {P Q : List Tm} (hP : ∀ t ∈ P, ∀ i, i < 8 → 0 ≤ t.m i) (hQ : ∀ t ∈ Q, ∀ i, i < 8 → 0 ≤ t.m i) : evF x (pmul P Q) = evF x P * evF x Q := by
 rw [evF_eq, evF_eq, evF_eq, pmul_sim _ _ _ (monV_resp x), dot_mulL]
 have h1 : dot (fun a => dot (fun b => monV x (add8 a b) 8) Q) P = dot (fun a => (dot (fun m => monV x m 8) Q) * monV x a 8) P := by
  refine dot_congr fun s hs => ?_
  show dot (fun b => monV x (add8 s.m b) 8) Q = dot (fun m => monV x m 8) Q * monV x s.m 8
  rw [Rat.mul_comm, ← dot_scale]
  exact dot_congr fun t ht => monV_add (hP s hs) (hQ t ht) 8 (by omega)
 rw [h1, dot_scale]
 grind
theorem monV_zero (x : Nat → Rat) : ∀ i, monV x (fun _ => 0) i = 1
 | 0 => rfl
 | i + 1 => by
  rw [monV, monV_zero x i, show ((0 : Int)).toNat = 0 from rfl, Rat.pow_zero]
  grind
theorem evF_const (x : Nat → Rat) (c : Rat) : evF x (constL c) = c := by
 rw [evF_eq, constL]
 split
 ·rename_i h; simp only [dot]; exact h.symm
 ·simp only [dot, monV_zero]; grind
theorem evF_bound {x : Nat → Rat} {P : List Tm} {n N E X T : Nat} (h : PB P n N (E : Nat)) (hx : ∀ i, i < 8 → RSz (x i) X) (hT : N + 8 * (E * X + 1) ≤ T) : RSz (evF x P) (1 + n * (T + 1)) := by
 have h1 := evF_sz (x := x) (T := T) (P := P) (fun t ht => (tvX_sz (h.sz t ht) (h.ex t ht) hx 8 (by omega)).mono hT) (s := 0) (K := 1) (rsz_sm (x := 0) (by omega) (by omega))
 exact h1.mono (by have := Nat.mul_le_mul_right (T + 1) h.len; omega)
theorem PEval_pb {P : List Tm} {n N : Nat} (E T : Nat) (x : Nat → Rat) (h : PB P n N (E : Nat)) (hx : ∀ i, i < 8 → RSz (x i) 1) (hE : E ≤ 65535) (hn : n ≤ 100000) (hT : N + 8 * (E * 1 + 1) ≤ T) (hT1 : T ≤ 10000000) : Abs Tryz.prog 27 [polD P, agD (ptC x)] (agD (ratC (evF x P))) :=
 PEval_abs P x N E 1 T h.sz h.ex hx hE (Nat.le_trans h.len hn) (by omega) hT hT1
theorem REval_pb {P : List Tm} {n N : Nat} (E T : Nat) (x : Nat → Rat) (h : PB P n N (E : Nat)) (hx : ∀ i, i < 8 → RSz (x i) 1) (hE : E ≤ 65535) (hn : n ≤ 100000) (hT : N + 8 * (E * 1 + 1) ≤ T) (hT1 : T ≤ 10000000) : Abs Tryz.prog 30 [polD P, agD (ptC x)] (agD (ratC (evF x P))) :=
 REval_abs P x N E 1 T h.sz h.ex hx hE (Nat.le_trans h.len hn) (by omega) hT hT1
theorem RSameQ_true {p q : Rat} (h : p = q) : Abs Tryz.prog 29 [agD (ratC p), agD (ratC q)] (ex (.bool true)) := by
 have := RSameQ_abs p q
 rwa [decide_eq_true h] at this
set_option maxHeartbeats 8000000 in
theorem values_abs (T : Nat) (X : List (Nat → Int)) (U : Nat) (Y : List (Nat → Int)) (l : Nat → Int) (hX : Raw8 X) (hY : Raw8 Y) : Abs Tryz.prog 6 [agD [r5D T X], agD [r5D U Y], agD (i4C l)] (ex (.bool true)) := by
 have hp : PB (madeP X 4 5 6) 6 18 (5 : Nat) := madeP_pb X 4 6 (by omega)
 have hq : PB (madeP Y 4 5 6) 6 18 (5 : Nat) := madeP_pb Y 4 6 (by omega)
 have cp := poly_abs T X hX
 have cq := poly_abs U Y hY
 generalize madeP X 4 5 6 = p at hp cp
 generalize madeP Y 4 5 6 = q at hq cq
 have hx : ∀ i, i < 8 → RSz (atX l i) 1 := fun i _ => atX_sz l i
 have cat := at_abs l
 generalize atX l = x at hx cat
 have hs : PB (mrg p q) 12 37 (5 : Nat) := hp.add hq
 have hpq : PB (pmul p q) 36 222 (10 : Nat) := hp.mul hq (by omega) (by omega)
 have ha : RSz (evF x p) 403 := evF_bound (T := 66) hp hx (by omega)
 have hb : RSz (evF x q) 403 := evF_bound (T := 66) hq hx (by omega)
 have hc : PB (constL (evF x p)) 1 403 (0 : Nat) := constL_pb ha (by omega)
 have e1 := evF_add x p q
 have e2 := evF_mul (x := x) (fun t ht i hi => (hp.ex t ht i hi).1) (fun t ht i hi => (hq.ex t ht i hi).1)
 have e3 := evF_const x (evF x p)
 refine Abs.intro Tryz.func6 rfl (callFunc_run Tryz.func6 (by kernel_rfl) (by kernel_rfl)) rfl fun s0 => ?_
 rw [Tryz.ntmps6]
 apply AWp.seq; apply AWp.region; refine AWs.bx (ao rfl) rfl rfl rfl rfl ?_; refine AWs.bx (ao rfl) rfl rfl rfl rfl ?_; refine AWs.bx (ao rfl) rfl rfl rfl rfl ?_; refine Wq Qz.assign ?_; apply AWl.nil; apply AThen.normal; apply AWp.seq; apply AWp.region; refine Wq (Qz.call (sanity_abs)) ?_; refine Wq Qz.assign ?_; apply AWl.nil; apply AThen.normal; apply AWp.seq; apply AWp.seq; apply AWp.region; refine Wq Qz.move ?_; refine Wq Qz.not ?_; apply AWl.nil; apply AThen.normal; refine AWp.condF (ao rfl) ?_; apply AWp.skip; apply AThen.normal; apply AWp.seq
 refine AWp.dr' (DrawOk.self (by kernel_rfl)) [[], [(18, 0)], [], [(20, 2)], [], [(22, 4)], []] [[], [0], [], [0, 1, 2], [], [0, 1, 2, 3, 4], []] rfl (by kernel_rfl) (by kernel_rfl) (by kernel_rfl) ?_
 refine Xq Qz.ldD ?_; refine Xq (Qz.call (cp)) ?_; refine Xq Qz.ldD ?_; refine Xq (Qz.call (cq)) ?_; refine Xq Qz.ldD ?_; refine Xq (Qz.call (cat)) ?_; refine Xn ?_; refine ⟨_, rfl, ?_⟩
 refine Wq Qz.assign ?_; refine Wq Qz.assign ?_; refine AWs.stF (ao rfl) (ao rfl) rfl (tab_of rfl) rfl rfl rfl ?_; apply AWl.nil; apply AThen.normal; apply AWp.seq
 refine AWp.dr' (DrawOk.self (by kernel_rfl)) [[], [], [(24, 0), (25, 1)], [], [], [(27, 3), (28, 4)], [], []] [[], [], [0, 1], [], [], [0, 1, 2, 3, 4], [], []] rfl (by kernel_rfl) (by kernel_rfl) (by kernel_rfl) ?_
 refine Xq Qz.move ?_; refine Xq Qz.ldD ?_; refine Xq (Qz.call (PEval_pb 5 66 x hp hx (by omega) (by omega) (by omega) (by omega))) ?_; refine Xq Qz.move ?_; refine Xq Qz.ldD ?_; refine Xq (Qz.call (PEval_pb 5 66 x hq hx (by omega) (by omega) (by omega) (by omega))) ?_; refine Xn ?_; refine Xn ?_; refine ⟨_, rfl, ?_⟩
 refine AWs.stF (ao rfl) (ao rfl) rfl (tab_of rfl) rfl rfl rfl ?_; refine AWs.stF (ao rfl) (ao rfl) rfl (tab_of rfl) rfl rfl rfl ?_; apply AWl.nil; apply AThen.normal; apply AWp.seq; apply AWp.seq
 refine AWp.dr' (DrawOk.self (by kernel_rfl)) [[], [(30, 0)], [(31, 1)], [(32, 2)], [], [(34, 4)], [(35, 5)], [(33, 3), (36, 6)], [(37, 7)], [], [], [], [(40, 10), (41, 11)], [(39, 9), (42, 12)], [(43, 13)], [(38, 8), (44, 14)]] [[], [0], [0, 1], [0, 1, 2], [0, 1, 2, 3], [0, 1, 2, 3, 4], [0, 1, 2, 3, 4, 5], [0, 1, 2, 3, 4, 5, 6], [0, 1, 2, 3, 4, 5, 6, 7], [0, 1, 2, 3, 4, 5, 6, 7, 8], [0, 1, 2, 3, 4, 5, 6, 7, 8], [0, 1, 2, 3, 4, 5, 6, 7, 8], [0, 1, 2, 3, 4, 5, 6, 7, 8, 10, 11], [0, 1, 2, 3, 4, 5, 6, 7, 8, 9, 10, 11, 12], [0, 1, 2, 3, 4, 5, 6, 7, 8, 9, 10, 11, 12, 13], [0, 1, 2, 3, 4, 5, 6, 7, 8, 9, 10, 11, 12, 13, 14]] rfl (by kernel_rfl) (by kernel_rfl) (by kernel_rfl) ?_
 refine Xq Qz.ldD ?_; refine Xq (Qz.call (RrValidT_abs (evF x p) 403 ha (by omega))) ?_; refine Xq Qz.not ?_; refine Xq Qz.move ?_; refine Xg Qz.ldD ?_; refine Xg (Qz.call (RrValidT_abs (evF x q) 403 hb (by omega))) ?_; refine Xg Qz.not ?_; refine Xq Qz.pickF ?_; refine Xq Qz.move ?_; refine Xg Qz.ldD ?_; refine Xg Qz.move ?_; refine Xg Qz.ldD ?_; refine Xg (Qz.call (REval_pb 5 66 x hp hx (by omega) (by omega) (by omega) (by omega))) ?_; refine Xg (Qz.call (RSameQ_true (rfl : evF x p = evF x p))) ?_; refine Xg Qz.not ?_; refine Xq Qz.pickF ?_; refine ⟨_, rfl, ?_⟩
 apply AWl.nil; apply AThen.normal; refine AWp.condF (ao rfl) ?_; apply AWp.skip; apply AThen.normal; apply AWp.seq
 refine AWp.dr' (DrawOk.self (by kernel_rfl)) [[], [], [(46, 0), (47, 1)], [], [(48, 2), (49, 3)], []] [[], [], [0, 1], [], [0, 1, 2, 3], []] rfl (by kernel_rfl) (by kernel_rfl) (by kernel_rfl) ?_
 refine Xq Qz.move ?_; refine Xq Qz.move ?_; refine Xq (Qz.call (PAdd_pb hp hq (by omega) (by omega))) ?_; refine Xq Qz.ldD ?_; refine Xq (Qz.call (PEval_pb 5 85 x hs hx (by omega) (by omega) (by omega) (by omega))) ?_; refine Xn ?_; refine ⟨_, rfl, ?_⟩
 refine AWs.stF (ao rfl) (ao rfl) rfl (tab_of rfl) rfl rfl rfl ?_; apply AWl.nil; apply AThen.normal; apply AWp.seq
 refine AWp.dr' (DrawOk.self (by kernel_rfl)) [[], [], [(51, 0), (52, 1)], [(53, 2)], [(53, 2)], [(54, 3), (55, 4)], [], [(56, 5), (57, 6)], []] [[], [], [0, 1], [0, 1, 2], [0, 1, 2], [0, 1, 2, 3, 4], [], [0, 1, 2, 3, 4, 5, 6], []] rfl (by kernel_rfl) (by kernel_rfl) (by kernel_rfl) ?_
 refine Xq Qz.move ?_; refine Xq Qz.move ?_; refine Xq (Qz.call (PMul_pb hp hq (by omega) (by omega) (by omega) (by omega) (by omega))) ?_; refine Xq Qz.ext ?_; refine Xq Qz.ext ?_; refine Xq (Qz.call (got_abs _)) ?_; refine Xq Qz.ldD ?_; refine Xq (Qz.call (PEval_pb 10 310 x hpq hx (by omega) (by omega) (by omega) (by omega))) ?_; refine Xn ?_; refine ⟨_, rfl, ?_⟩
 refine AWs.stF (ao rfl) (ao rfl) rfl (tab_of rfl) rfl rfl rfl ?_; apply AWl.nil; apply AThen.normal; apply AWp.seq
 refine AWp.dr' (DrawOk.self (by kernel_rfl)) [[], [], [], [(60, 1), (61, 2)], [(59, 0), (62, 3)], [(63, 4)], [], [], [], [(66, 7), (67, 8)], [(65, 6), (68, 9)], [(64, 5), (69, 10)], [(70, 11)], [], [(72, 13)], [], [(73, 14), (74, 15)], [], [(75, 16), (76, 17)], [(71, 12), (77, 18)], [(78, 19)], [], [(79, 20), (80, 21)]] [[], [], [], [1, 2], [0, 1, 2, 3], [0, 1, 2, 3, 4], [0, 1, 2, 3, 4, 5], [0, 1, 2, 3, 4, 5], [0, 1, 2, 3, 4, 5], [0, 1, 2, 3, 4, 5, 7, 8], [0, 1, 2, 3, 4, 5, 6, 7, 8, 9], [0, 1, 2, 3, 4, 5, 6, 7, 8, 9, 10], [0, 1, 2, 3, 4, 5, 6, 7, 8, 9, 10, 11], [0, 1, 2, 3, 4, 5, 6, 7, 8, 9, 10, 11, 12], [0, 1, 2, 3, 4, 5, 6, 7, 8, 9, 10, 11, 12, 13], [0, 1, 2, 3, 4, 5, 6, 7, 8, 9, 10, 11, 12], [0, 1, 2, 3, 4, 5, 6, 7, 8, 9, 10, 11, 12, 13, 14, 15], [0, 1, 2, 3, 4, 5, 6, 7, 8, 9, 10, 11, 12], [0, 1, 2, 3, 4, 5, 6, 7, 8, 9, 10, 11, 12, 13, 14, 15, 16, 17], [0, 1, 2, 3, 4, 5, 6, 7, 8, 9, 10, 11, 12, 13, 14, 15, 16, 17, 18], [0, 1, 2, 3, 4, 5, 6, 7, 8, 9, 10, 11, 12, 13, 14, 15, 16, 17, 18, 19], [0, 1, 2, 3, 4, 5, 6, 7, 8, 9, 10, 11, 12, 13, 14, 15, 16, 17, 18, 19, 20], [0, 1, 2, 3, 4, 5, 6, 7, 8, 9, 10, 11, 12, 13, 14, 15, 16, 17, 18, 19, 20, 21]] rfl (by kernel_rfl) (by kernel_rfl) (by kernel_rfl) ?_
 refine Xq Qz.ldD ?_; refine Xq Qz.ldD ?_; refine Xq Qz.ldD ?_; refine Xq (Qz.call (RAdd_abs (evF x p) (evF x q) 403 403 ha hb (by omega))) ?_; refine Xq (Qz.call (RSameQ_true e1)) ?_; refine Xq Qz.move ?_; refine Xg Qz.ldD ?_; refine Xg Qz.ldD ?_; refine Xg Qz.ldD ?_; refine Xg (Qz.call (RMul_abs (evF x p) (evF x q) 403 403 ha hb (by omega))) ?_; refine Xg (Qz.call (RSameQ_true e2)) ?_; refine Xq Qz.pickT ?_; refine Xq Qz.move ?_; refine Xg Qz.ldD ?_; refine Xg (Qz.call (PConst_abs (evF x p))) ?_; refine Xg Qz.ldD ?_; refine Xg (Qz.call (PEval_pb 0 411 x hc hx (by omega) (by omega) (by omega) (by omega))) ?_; refine Xg Qz.ldD ?_; refine Xg (Qz.call (RSameQ_true e3)) ?_; refine Xq Qz.pickT ?_; refine Xq Qz.move ?_; refine Xg Qz.move ?_; refine Xq Qz.pickT ?_; refine ⟨_, rfl, ?_⟩
 refine Wq Qz.assign ?_; apply AWl.nil; apply AThen.normal; apply AWp.ret
 exact Fin.ret (Rets.of1 (ResV.tmp rfl rfl) (D.le.refl _))
theorem values_law (T : Nat) (X : List (Nat → Int)) (U : Nat) (Y : List (Nat → Int)) (l : Nat → Int) (hX : Raw8 X) (hY : Raw8 Y) (_ : ∀ j, j < 4 → -128 ≤ l j ∧ l j ≤ 127) : Abs Tryz.prog 6 [agD [r5D T X], agD [r5D U Y], agD [ex (.int .i8 (l 0)), ex (.int .i8 (l 1)), ex (.int .i8 (l 2)), ex (.int .i8 (l 3))]] (ex (.bool true)) := values_abs T X U Y l hX hY
end Go.Proofs.YteicdddphdomkaaGreat
