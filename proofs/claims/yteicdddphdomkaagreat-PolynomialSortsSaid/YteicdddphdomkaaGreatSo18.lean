/-
  Part 18 of the proof that polynomialSorts_holds holds; the statement is the last theorem of the last part. No condition.
-/
import Derived.Test.YteicdddphdomkaaGreatSo17
set_option linter.unusedSimpArgs false
set_option linter.unusedVariables false
namespace Go.Proofs.YteicdddphdomkaaGreat
open Go.RowKit
set_option maxRecDepth 100000
theorem mrg_gt {s t : Tm} {P Q : List Tm} (h : lx s.m t.m = 1) : mrg (s :: P) (t :: Q) = s :: mrg P (t :: Q) := by
 rw [mrg, if_pos (show 0 < lx s.m t.m by omega)]
theorem mrg_lt {s t : Tm} {P Q : List Tm} (h : lx s.m t.m = -1) : mrg (s :: P) (t :: Q) = t :: mrg (s :: P) Q := by
 rw [mrg, if_neg (show ¬ 0 < lx s.m t.m by omega), if_pos (show lx s.m t.m < 0 by omega)]
theorem mrg_eq {s t : Tm} {P Q : List Tm} (h : lx s.m t.m = 0) : mrg (s :: P) (t :: Q) = if s.c + t.c = 0 then mrg P Q else ⟨s.c + t.c, s.m⟩ :: mrg P Q := by
 rw [mrg, if_neg (show ¬ 0 < lx s.m t.m by omega), if_neg (show ¬ lx s.m t.m < 0 by omega)]
theorem nil_mrg (Q : List Tm) : mrg [] Q = Q := by rw [mrg]
set_option maxHeartbeats 1000000 in
theorem RAdd_pol (P Q : List Tm) (N M : Nat) (hP : PSz P N) (hQ : PSz Q M) (hNM : N + M + 1 ≤ 4398046511103) (hn : P.length + Q.length ≤ 100000) : Abs Tryz.prog 56 [polD P, polD Q] (polD (mrg P Q)) := by
 refine Abs.intro Tryz.func56 rfl (callFunc_run Tryz.func56 (by kernel_rfl) (by kernel_rfl)) rfl fun s0 => ?_
 rw [Tryz.ntmps56]
 apply AWp.seq; apply AWp.region; refine Wq Qz.assign ?_; apply AWl.nil; apply AThen.normal; apply AWp.seq; apply AWp.region; refine AWs.b0 (tab_of rfl) (tab_of rfl) rfl rfl rfl rfl rfl ?_; refine Wq Qz.assign ?_; apply AWl.nil; apply AThen.normal; apply AWp.seq; apply AWp.region; refine Wq Qz.assign ?_; refine Wq Qz.assign ?_; apply AWl.nil; apply AThen.normal; apply AWp.seq; apply AWp.block
 refine AWp.loop (fun mz σ => ∃ (i k : Nat) (R : List Tm), i ≤ P.length ∧ k ≤ Q.length ∧ R ++ mrg (P.drop i) (Q.drop k) = mrg P Q ∧ R.length ≤ i + k ∧ mz = (P.length - i) + (Q.length - k) ∧ σ = ⟨[(0, .d (polD P)), (1, .d (polD Q)), (5, .own 0), (6, .d (ex (.int .i64 (i : Nat)))), (7, .d (ex (.int .i64 (k : Nat))))], [.row 33 12 (R.map tmC)]⟩) ?le ⟨0, 0, [], by omega, by omega, rfl, by simp, rfl, rfl⟩ ?round
 case le => exact AS.le_of (by refine FrLe.cons rfl (AVle.d rfl) ?_; refine FrLe.cons rfl (AVle.d rfl) ?_; refine FrLe.cons rfl (AVle.own rfl) ?_; refine FrLe.cons rfl (AVle.d rfl) ?_; refine FrLe.cons rfl (AVle.d rfl) ?_; exact FrLe.nil) (by refine HpLe.cons (OwLe.row rfl) ?_; exact HpLe.nil)
 case round =>
  rintro mz _ ⟨i, k, R, hi, hk, heq, hl, rfl, rfl⟩
  by_cases hip : i < P.length
  ·have hdP := drop_tAt hip
   by_cases hkq : k < Q.length
   ·have hdQ := drop_tAt hkq
    rw [hdP, hdQ] at heq
    have hs := hP _ (tAt_mem hip)
    have ht := hQ _ (tAt_mem hkq)
    rcases lx_val (tAt P i).m (tAt Q k).m with hc | hc | hc
    ·have hc' : lex8 (tAt P i).m (tAt Q k).m = -1 := by rw [← lx_lex]; exact hc
     apply AWp.seq; apply AWp.seq; apply AWp.region; refine Wq Qz.move ?_; refine Wq Qz.move ?_; refine Wq Qz.lenN ?_; refine Wq Qz.cmpT ?_; refine Wq Qz.move ?_; refine Ws ?_; refine Ws ?_; refine Ws ?_; refine Ws ?_; refine Wq Qz.pickT ?_; apply AWl.nil; apply AThen.normal; refine AWp.condT (ao rfl) ?_; apply AWp.skip; apply AThen.normal; apply AWp.block; apply AWp.seq; apply AWp.seq
     refine AWp.dr' (DrawOk.self (by kernel_rfl)) [[], [], [(21, 1)], [(20, 0), (22, 2)], [(23, 3)], [], [], [(26, 6)], [(25, 5), (27, 7)], [(28, 8)], [], [], [(30, 10), (31, 11)], [(32, 12)], [(33, 13)], [], [], [(35, 15), (36, 16)], [(37, 17)], [(38, 18)], [(34, 14), (39, 19)], [(40, 20)], [(29, 9), (41, 21)], [(24, 4), (42, 22)]] [[], [], [1], [0, 1, 2], [0, 1, 2, 3], [0, 1, 2, 3, 4], [0, 1, 2, 3, 4], [0, 1, 2, 3, 4, 6], [0, 1, 2, 3, 4, 5, 6, 7], [0, 1, 2, 3, 4, 5, 6, 7, 8], [0, 1, 2, 3, 4, 5, 6, 7, 8, 9], [0, 1, 2, 3, 4, 5, 6, 7, 8, 9], [0, 1, 2, 3, 4, 5, 6, 7, 8, 9, 10, 11], [0, 1, 2, 3, 4, 5, 6, 7, 8, 9, 10, 11, 12], [0, 1, 2, 3, 4, 5, 6, 7, 8, 9, 10, 11, 12, 13], [0, 1, 2, 3, 4, 5, 6, 7, 8, 9], [0, 1, 2, 3, 4, 5, 6, 7, 8, 9], [0, 1, 2, 3, 4, 5, 6, 7, 8, 9, 15, 16], [0, 1, 2, 3, 4, 5, 6, 7, 8, 9, 15, 16, 17], [0, 1, 2, 3, 4, 5, 6, 7, 8, 9, 15, 16, 17, 18], [0, 1, 2, 3, 4, 5, 6, 7, 8, 9, 10, 11, 12, 13, 14, 15, 16, 17, 18, 19], [0, 1, 2, 3, 4, 5, 6, 7, 8, 9, 10, 11, 12, 13, 14, 15, 16, 17, 18, 19, 20], [0, 1, 2, 3, 4, 5, 6, 7, 8, 9, 10, 11, 12, 13, 14, 15, 16, 17, 18, 19, 20, 21], [0, 1, 2, 3, 4, 5, 6, 7, 8, 9, 10, 11, 12, 13, 14, 15, 16, 17, 18, 19, 20, 21, 22]] rfl (by kernel_rfl) (by kernel_rfl) (by kernel_rfl) ?_
     refine Xq Qz.move ?_; refine Xq Qz.move ?_; refine Xq Qz.lenN ?_; refine Xq Qz.cmpF ?_; refine Xq Qz.move ?_; refine Xg Qz.move ?_; refine Xg Qz.move ?_; refine Xg Qz.lenN ?_; refine Xg Qz.cmpT ?_; refine Xg Qz.move ?_; refine Xg Qz.move ?_; refine Xg Qz.move ?_; refine Xg Qz.indexN ?_; refine Xg Qz.fldE ?_; refine Xg Qz.loadEf ?_; refine Xg Qz.move ?_; refine Xg Qz.move ?_; refine Xg Qz.indexN ?_; refine Xg Qz.fldE ?_; refine Xg Qz.loadEf ?_; refine Xg (Qz.call (RmCmp_abs (tAt P i).m (tAt Q k).m)) ?_; refine Xg Qz.cmpF ?_; refine Xg Qz.pickT ?_; refine Xq Qz.pickF ?_; refine ⟨_, rfl, ?_⟩
     apply AWl.nil; apply AThen.normal; refine AWp.condF (ao rfl) ?_; apply AWp.skip; apply AThen.normal; apply AWp.seq; apply AWp.seq
     refine AWp.dr' (DrawOk.self (by kernel_rfl)) [[], [], [(54, 1)], [(53, 0), (55, 2)], [(56, 3)], [], [], [(58, 5), (59, 6)], [(60, 7)], [(61, 8)], [], [], [(63, 10), (64, 11)], [(65, 12)], [(66, 13)], [(62, 9), (67, 14)], [(68, 15)], [(57, 4), (69, 16)]] [[], [], [1], [0, 1, 2], [0, 1, 2, 3], [0, 1, 2, 3, 4], [0, 1, 2, 3, 4], [0, 1, 2, 3, 4, 5, 6], [0, 1, 2, 3, 4, 5, 6, 7], [0, 1, 2, 3, 4, 5, 6, 7, 8], [0, 1, 2, 3, 4], [0, 1, 2, 3, 4], [0, 1, 2, 3, 4, 10, 11], [0, 1, 2, 3, 4, 10, 11, 12], [0, 1, 2, 3, 4, 10, 11, 12, 13], [0, 1, 2, 3, 4, 5, 6, 7, 8, 9, 10, 11, 12, 13, 14], [0, 1, 2, 3, 4, 5, 6, 7, 8, 9, 10, 11, 12, 13, 14, 15], [0, 1, 2, 3, 4, 5, 6, 7, 8, 9, 10, 11, 12, 13, 14, 15, 16]] rfl (by kernel_rfl) (by kernel_rfl) (by kernel_rfl) ?_
     refine Xq Qz.move ?_; refine Xq Qz.move ?_; refine Xq Qz.lenN ?_; refine Xq Qz.cmpF ?_; refine Xq Qz.move ?_; refine Xg Qz.move ?_; refine Xg Qz.move ?_; refine Xg Qz.indexN ?_; refine Xg Qz.fldE ?_; refine Xg Qz.loadEf ?_; refine Xg Qz.move ?_; refine Xg Qz.move ?_; refine Xg Qz.indexN ?_; refine Xg Qz.fldE ?_; refine Xg Qz.loadEf ?_; refine Xg (Qz.call (RmCmp_abs (tAt P i).m (tAt Q k).m)) ?_; refine Xg Qz.cmpT ?_; refine Xq Qz.pickF ?_; refine ⟨_, rfl, ?_⟩
     apply AWl.nil; apply AThen.normal; refine AWp.condT (ao rfl) ?_; apply AWp.seq; apply AWp.region; refine Wq Qz.move ?_; refine Wq Qz.move ?_; refine Wq Qz.move ?_; refine Wq Qz.indexN ?_; refine Wq Qz.loadEf ?_; (refine AWs.q rfl rfl ?_; refine ⟨_, Bq.slice1 (ao rfl) (tab_of rfl) (tab_of rfl) rfl rfl rfl rfl rfl, ?_⟩); (refine AWs.app (ao rfl) rfl rfl (tab_of rfl) (tab_of rfl) rfl rfl (by simp; omega) (by simp; omega) rfl (by first | ((repeat (first | exact PlainHp.nil | refine PlainHp.var ?_ | refine PlainHp.row ?_ | refine PlainHp.dead ?_)); done) | fail) rfl ?_); refine Wq Qz.assign ?_; apply AWl.nil; apply AThen.normal; apply AWp.seq; apply AWp.region; refine Wq Qz.move ?_; refine Wq Qz.succ ?_; refine Wq Qz.assign ?_; apply AWl.nil; apply AThen.normal; apply AWp.exit; apply AThen.exit; apply ABlock.hit
     refine ALoop.next ((P.length - i) + (Q.length - (k + 1))) (by omega) ⟨i, k + 1, R ++ [tAt Q k], by omega, by omega, ?_, by simp; omega, rfl, rfl⟩ ?_
     ·rw [mrg_lt hc] at heq
      rw [← heq, hdP]; simp
     ·exact AS.le_of (by refine FrLe.cons rfl (AVle.d rfl) ?_; refine FrLe.cons rfl (AVle.d rfl) ?_; refine FrLe.cons rfl (AVle.own rfl) ?_; refine FrLe.cons rfl (AVle.d rfl) ?_; refine FrLe.cons rfl (AVle.d rfl) ?_; exact FrLe.nil) (by refine HpLe.cons (OwLe.row (map_snoc tmC R (tAt Q k))) ?_; exact HpLe.nil)
    ·have hc' : lex8 (tAt P i).m (tAt Q k).m = 0 := by rw [← lx_lex]; exact hc
     by_cases hz : (tAt P i).c + (tAt Q k).c = 0
     ·have hsg := num_sign0.2 hz
      apply AWp.seq; apply AWp.seq; apply AWp.region; refine Wq Qz.move ?_; refine Wq Qz.move ?_; refine Wq Qz.lenN ?_; refine Wq Qz.cmpT ?_; refine Wq Qz.move ?_; refine Ws ?_; refine Ws ?_; refine Ws ?_; refine Ws ?_; refine Wq Qz.pickT ?_; apply AWl.nil; apply AThen.normal; refine AWp.condT (ao rfl) ?_; apply AWp.skip; apply AThen.normal; apply AWp.block; apply AWp.seq; apply AWp.seq
      refine AWp.dr' (DrawOk.self (by kernel_rfl)) [[], [], [(21, 1)], [(20, 0), (22, 2)], [(23, 3)], [], [], [(26, 6)], [(25, 5), (27, 7)], [(28, 8)], [], [], [(30, 10), (31, 11)], [(32, 12)], [(33, 13)], [], [], [(35, 15), (36, 16)], [(37, 17)], [(38, 18)], [(34, 14), (39, 19)], [(40, 20)], [(29, 9), (41, 21)], [(24, 4), (42, 22)]] [[], [], [1], [0, 1, 2], [0, 1, 2, 3], [0, 1, 2, 3, 4], [0, 1, 2, 3, 4], [0, 1, 2, 3, 4, 6], [0, 1, 2, 3, 4, 5, 6, 7], [0, 1, 2, 3, 4, 5, 6, 7, 8], [0, 1, 2, 3, 4, 5, 6, 7, 8, 9], [0, 1, 2, 3, 4, 5, 6, 7, 8, 9], [0, 1, 2, 3, 4, 5, 6, 7, 8, 9, 10, 11], [0, 1, 2, 3, 4, 5, 6, 7, 8, 9, 10, 11, 12], [0, 1, 2, 3, 4, 5, 6, 7, 8, 9, 10, 11, 12, 13], [0, 1, 2, 3, 4, 5, 6, 7, 8, 9], [0, 1, 2, 3, 4, 5, 6, 7, 8, 9], [0, 1, 2, 3, 4, 5, 6, 7, 8, 9, 15, 16], [0, 1, 2, 3, 4, 5, 6, 7, 8, 9, 15, 16, 17], [0, 1, 2, 3, 4, 5, 6, 7, 8, 9, 15, 16, 17, 18], [0, 1, 2, 3, 4, 5, 6, 7, 8, 9, 10, 11, 12, 13, 14, 15, 16, 17, 18, 19], [0, 1, 2, 3, 4, 5, 6, 7, 8, 9, 10, 11, 12, 13, 14, 15, 16, 17, 18, 19, 20], [0, 1, 2, 3, 4, 5, 6, 7, 8, 9, 10, 11, 12, 13, 14, 15, 16, 17, 18, 19, 20, 21], [0, 1, 2, 3, 4, 5, 6, 7, 8, 9, 10, 11, 12, 13, 14, 15, 16, 17, 18, 19, 20, 21, 22]] rfl (by kernel_rfl) (by kernel_rfl) (by kernel_rfl) ?_
      refine Xq Qz.move ?_; refine Xq Qz.move ?_; refine Xq Qz.lenN ?_; refine Xq Qz.cmpF ?_; refine Xq Qz.move ?_; refine Xg Qz.move ?_; refine Xg Qz.move ?_; refine Xg Qz.lenN ?_; refine Xg Qz.cmpT ?_; refine Xg Qz.move ?_; refine Xg Qz.move ?_; refine Xg Qz.move ?_; refine Xg Qz.indexN ?_; refine Xg Qz.fldE ?_; refine Xg Qz.loadEf ?_; refine Xg Qz.move ?_; refine Xg Qz.move ?_; refine Xg Qz.indexN ?_; refine Xg Qz.fldE ?_; refine Xg Qz.loadEf ?_; refine Xg (Qz.call (RmCmp_abs (tAt P i).m (tAt Q k).m)) ?_; refine Xg Qz.cmpF ?_; refine Xg Qz.pickT ?_; refine Xq Qz.pickF ?_; refine ⟨_, rfl, ?_⟩
      apply AWl.nil; apply AThen.normal; refine AWp.condF (ao rfl) ?_; apply AWp.skip; apply AThen.normal; apply AWp.seq; apply AWp.seq
      refine AWp.dr' (DrawOk.self (by kernel_rfl)) [[], [], [(54, 1)], [(53, 0), (55, 2)], [(56, 3)], [], [], [(58, 5), (59, 6)], [(60, 7)], [(61, 8)], [], [], [(63, 10), (64, 11)], [(65, 12)], [(66, 13)], [(62, 9), (67, 14)], [(68, 15)], [(57, 4), (69, 16)]] [[], [], [1], [0, 1, 2], [0, 1, 2, 3], [0, 1, 2, 3, 4], [0, 1, 2, 3, 4], [0, 1, 2, 3, 4, 5, 6], [0, 1, 2, 3, 4, 5, 6, 7], [0, 1, 2, 3, 4, 5, 6, 7, 8], [0, 1, 2, 3, 4], [0, 1, 2, 3, 4], [0, 1, 2, 3, 4, 10, 11], [0, 1, 2, 3, 4, 10, 11, 12], [0, 1, 2, 3, 4, 10, 11, 12, 13], [0, 1, 2, 3, 4, 5, 6, 7, 8, 9, 10, 11, 12, 13, 14], [0, 1, 2, 3, 4, 5, 6, 7, 8, 9, 10, 11, 12, 13, 14, 15], [0, 1, 2, 3, 4, 5, 6, 7, 8, 9, 10, 11, 12, 13, 14, 15, 16]] rfl (by kernel_rfl) (by kernel_rfl) (by kernel_rfl) ?_
      refine Xq Qz.move ?_; refine Xq Qz.move ?_; refine Xq Qz.lenN ?_; refine Xq Qz.cmpF ?_; refine Xq Qz.move ?_; refine Xg Qz.move ?_; refine Xg Qz.move ?_; refine Xg Qz.indexN ?_; refine Xg Qz.fldE ?_; refine Xg Qz.loadEf ?_; refine Xg Qz.move ?_; refine Xg Qz.move ?_; refine Xg Qz.indexN ?_; refine Xg Qz.fldE ?_; refine Xg Qz.loadEf ?_; refine Xg (Qz.call (RmCmp_abs (tAt P i).m (tAt Q k).m)) ?_; refine Xg Qz.cmpF ?_; refine Xq Qz.pickF ?_; refine ⟨_, rfl, ?_⟩
      apply AWl.nil; apply AThen.normal; refine AWp.condF (ao rfl) ?_; apply AWp.skip; apply AThen.normal; apply AWp.seq
      refine AWp.dr' (DrawOk.self (by kernel_rfl)) [[], [], [(80, 0), (81, 1)], [(82, 2)], [(83, 3)], [], [], [(85, 5), (86, 6)], [(87, 7)], [(88, 8)], [(84, 4), (89, 9)], []] [[], [], [0, 1], [0, 1, 2], [0, 1, 2, 3], [], [], [5, 6], [5, 6, 7], [5, 6, 7, 8], [0, 1, 2, 3, 4, 5, 6, 7, 8, 9], []] rfl (by kernel_rfl) (by kernel_rfl) (by kernel_rfl) ?_
      refine Xq Qz.move ?_; refine Xq Qz.move ?_; refine Xq Qz.indexN ?_; refine Xq Qz.fldE ?_; refine Xq Qz.ldE ?_; refine Xq Qz.move ?_; refine Xq Qz.move ?_; refine Xq Qz.indexN ?_; refine Xq Qz.fldE ?_; refine Xq Qz.ldE ?_; refine Xq (Qz.call (RAdd_abs (tAt P i).c (tAt Q k).c N M hs ht hNM)) ?_; refine Xn ?_; refine ⟨_, rfl, ?_⟩
      refine AWs.stF (ao rfl) (ao rfl) rfl (tab_of rfl) rfl rfl rfl ?_; apply AWl.nil; apply AThen.normal; apply AWp.seq; apply AWp.seq; apply AWp.region; refine Wq Qz.ldD ?_; refine Wq (Qz.call (RSign_abs ((tAt P i).c + (tAt Q k).c))) ?_; refine Wq Qz.cmpF ?_; apply AWl.nil; apply AThen.normal; refine AWp.condF (ao rfl) ?_; apply AWp.skip; apply AThen.normal; apply AWp.seq; apply AWp.region; refine Wq Qz.move ?_; refine Wq Qz.succ ?_; refine Wq Qz.assign ?_; apply AWl.nil; apply AThen.normal; apply AWp.region; refine Wq Qz.move ?_; refine Wq Qz.succ ?_; refine Wq Qz.assign ?_; apply AWl.nil; apply ABlock.normal
      refine ALoop.next ((P.length - (i + 1)) + (Q.length - (k + 1))) (by omega) ⟨i + 1, k + 1, R, by omega, by omega, ?_, by omega, rfl, rfl⟩ ?_
      ·rw [mrg_eq hc, if_pos hz] at heq
       exact heq
      ·exact AS.le_of (by refine FrLe.cons rfl (AVle.d rfl) ?_; refine FrLe.cons rfl (AVle.d rfl) ?_; refine FrLe.cons rfl (AVle.own rfl) ?_; refine FrLe.cons rfl (AVle.d rfl) ?_; refine FrLe.cons rfl (AVle.d rfl) ?_; exact FrLe.nil) (by refine HpLe.cons (OwLe.row rfl) ?_; exact HpLe.nil)
     ·have hsg : ((tAt P i).c + (tAt Q k).c).num.sign ≠ 0 := fun e => hz (num_sign0.1 e)
      apply AWp.seq; apply AWp.seq; apply AWp.region; refine Wq Qz.move ?_; refine Wq Qz.move ?_; refine Wq Qz.lenN ?_; refine Wq Qz.cmpT ?_; refine Wq Qz.move ?_; refine Ws ?_; refine Ws ?_; refine Ws ?_; refine Ws ?_; refine Wq Qz.pickT ?_; apply AWl.nil; apply AThen.normal; refine AWp.condT (ao rfl) ?_; apply AWp.skip; apply AThen.normal; apply AWp.block; apply AWp.seq; apply AWp.seq
      refine AWp.dr' (DrawOk.self (by kernel_rfl)) [[], [], [(21, 1)], [(20, 0), (22, 2)], [(23, 3)], [], [], [(26, 6)], [(25, 5), (27, 7)], [(28, 8)], [], [], [(30, 10), (31, 11)], [(32, 12)], [(33, 13)], [], [], [(35, 15), (36, 16)], [(37, 17)], [(38, 18)], [(34, 14), (39, 19)], [(40, 20)], [(29, 9), (41, 21)], [(24, 4), (42, 22)]] [[], [], [1], [0, 1, 2], [0, 1, 2, 3], [0, 1, 2, 3, 4], [0, 1, 2, 3, 4], [0, 1, 2, 3, 4, 6], [0, 1, 2, 3, 4, 5, 6, 7], [0, 1, 2, 3, 4, 5, 6, 7, 8], [0, 1, 2, 3, 4, 5, 6, 7, 8, 9], [0, 1, 2, 3, 4, 5, 6, 7, 8, 9], [0, 1, 2, 3, 4, 5, 6, 7, 8, 9, 10, 11], [0, 1, 2, 3, 4, 5, 6, 7, 8, 9, 10, 11, 12], [0, 1, 2, 3, 4, 5, 6, 7, 8, 9, 10, 11, 12, 13], [0, 1, 2, 3, 4, 5, 6, 7, 8, 9], [0, 1, 2, 3, 4, 5, 6, 7, 8, 9], [0, 1, 2, 3, 4, 5, 6, 7, 8, 9, 15, 16], [0, 1, 2, 3, 4, 5, 6, 7, 8, 9, 15, 16, 17], [0, 1, 2, 3, 4, 5, 6, 7, 8, 9, 15, 16, 17, 18], [0, 1, 2, 3, 4, 5, 6, 7, 8, 9, 10, 11, 12, 13, 14, 15, 16, 17, 18, 19], [0, 1, 2, 3, 4, 5, 6, 7, 8, 9, 10, 11, 12, 13, 14, 15, 16, 17, 18, 19, 20], [0, 1, 2, 3, 4, 5, 6, 7, 8, 9, 10, 11, 12, 13, 14, 15, 16, 17, 18, 19, 20, 21], [0, 1, 2, 3, 4, 5, 6, 7, 8, 9, 10, 11, 12, 13, 14, 15, 16, 17, 18, 19, 20, 21, 22]] rfl (by kernel_rfl) (by kernel_rfl) (by kernel_rfl) ?_
      refine Xq Qz.move ?_; refine Xq Qz.move ?_; refine Xq Qz.lenN ?_; refine Xq Qz.cmpF ?_; refine Xq Qz.move ?_; refine Xg Qz.move ?_; refine Xg Qz.move ?_; refine Xg Qz.lenN ?_; refine Xg Qz.cmpT ?_; refine Xg Qz.move ?_; refine Xg Qz.move ?_; refine Xg Qz.move ?_; refine Xg Qz.indexN ?_; refine Xg Qz.fldE ?_; refine Xg Qz.loadEf ?_; refine Xg Qz.move ?_; refine Xg Qz.move ?_; refine Xg Qz.indexN ?_; refine Xg Qz.fldE ?_; refine Xg Qz.loadEf ?_; refine Xg (Qz.call (RmCmp_abs (tAt P i).m (tAt Q k).m)) ?_; refine Xg Qz.cmpF ?_; refine Xg Qz.pickT ?_; refine Xq Qz.pickF ?_; refine ⟨_, rfl, ?_⟩
      apply AWl.nil; apply AThen.normal; refine AWp.condF (ao rfl) ?_; apply AWp.skip; apply AThen.normal; apply AWp.seq; apply AWp.seq
      refine AWp.dr' (DrawOk.self (by kernel_rfl)) [[], [], [(54, 1)], [(53, 0), (55, 2)], [(56, 3)], [], [], [(58, 5), (59, 6)], [(60, 7)], [(61, 8)], [], [], [(63, 10), (64, 11)], [(65, 12)], [(66, 13)], [(62, 9), (67, 14)], [(68, 15)], [(57, 4), (69, 16)]] [[], [], [1], [0, 1, 2], [0, 1, 2, 3], [0, 1, 2, 3, 4], [0, 1, 2, 3, 4], [0, 1, 2, 3, 4, 5, 6], [0, 1, 2, 3, 4, 5, 6, 7], [0, 1, 2, 3, 4, 5, 6, 7, 8], [0, 1, 2, 3, 4], [0, 1, 2, 3, 4], [0, 1, 2, 3, 4, 10, 11], [0, 1, 2, 3, 4, 10, 11, 12], [0, 1, 2, 3, 4, 10, 11, 12, 13], [0, 1, 2, 3, 4, 5, 6, 7, 8, 9, 10, 11, 12, 13, 14], [0, 1, 2, 3, 4, 5, 6, 7, 8, 9, 10, 11, 12, 13, 14, 15], [0, 1, 2, 3, 4, 5, 6, 7, 8, 9, 10, 11, 12, 13, 14, 15, 16]] rfl (by kernel_rfl) (by kernel_rfl) (by kernel_rfl) ?_
      refine Xq Qz.move ?_; refine Xq Qz.move ?_; refine Xq Qz.lenN ?_; refine Xq Qz.cmpF ?_; refine Xq Qz.move ?_; refine Xg Qz.move ?_; refine Xg Qz.move ?_; refine Xg Qz.indexN ?_; refine Xg Qz.fldE ?_; refine Xg Qz.loadEf ?_; refine Xg Qz.move ?_; refine Xg Qz.move ?_; refine Xg Qz.indexN ?_; refine Xg Qz.fldE ?_; refine Xg Qz.loadEf ?_; refine Xg (Qz.call (RmCmp_abs (tAt P i).m (tAt Q k).m)) ?_; refine Xg Qz.cmpF ?_; refine Xq Qz.pickF ?_; refine ⟨_, rfl, ?_⟩
      apply AWl.nil; apply AThen.normal; refine AWp.condF (ao rfl) ?_; apply AWp.skip; apply AThen.normal; apply AWp.seq
      refine AWp.dr' (DrawOk.self (by kernel_rfl)) [[], [], [(80, 0), (81, 1)], [(82, 2)], [(83, 3)], [], [], [(85, 5), (86, 6)], [(87, 7)], [(88, 8)], [(84, 4), (89, 9)], []] [[], [], [0, 1], [0, 1, 2], [0, 1, 2, 3], [], [], [5, 6], [5, 6, 7], [5, 6, 7, 8], [0, 1, 2, 3, 4, 5, 6, 7, 8, 9], []] rfl (by kernel_rfl) (by kernel_rfl) (by kernel_rfl) ?_
      refine Xq Qz.move ?_; refine Xq Qz.move ?_; refine Xq Qz.indexN ?_; refine Xq Qz.fldE ?_; refine Xq Qz.ldE ?_; refine Xq Qz.move ?_; refine Xq Qz.move ?_; refine Xq Qz.indexN ?_; refine Xq Qz.fldE ?_; refine Xq Qz.ldE ?_; refine Xq (Qz.call (RAdd_abs (tAt P i).c (tAt Q k).c N M hs ht hNM)) ?_; refine Xn ?_; refine ⟨_, rfl, ?_⟩
      refine AWs.stF (ao rfl) (ao rfl) rfl (tab_of rfl) rfl rfl rfl ?_; apply AWl.nil; apply AThen.normal; apply AWp.seq; apply AWp.seq; apply AWp.region; refine Wq Qz.ldD ?_; refine Wq (Qz.call (RSign_abs ((tAt P i).c + (tAt Q k).c))) ?_; refine Wq Qz.cmpT ?_; apply AWl.nil; apply AThen.normal; refine AWp.condT (ao rfl) ?_
      refine AWp.dr' (DrawOk.self (by kernel_rfl)) [[], [], [], [], [(96, 2), (97, 3)], [(98, 4)], [(99, 5)], [(95, 1), (100, 6)], [(101, 7)]] [[], [], [], [], [2, 3], [2, 3, 4], [2, 3, 4, 5], [1, 2, 3, 4, 5, 6], [1, 2, 3, 4, 5, 6, 7]] rfl (by kernel_rfl) (by kernel_rfl) (by kernel_rfl) ?_
      refine Xq Qz.move ?_; refine Xq Qz.ldD ?_; refine Xq Qz.move ?_; refine Xq Qz.move ?_; refine Xq Qz.indexN ?_; refine Xq Qz.fldE ?_; refine Xq Qz.loadEf ?_; (refine Hq rfl ?_; refine Bq.build (tab_of rfl) rfl rfl rfl ?_; (repeat ((first | refine ⟨_, PartOk.ag (ah rfl), ?_⟩ | refine ⟨_, PartOk.one rfl (by first | exact One.ex_ rfl | exact One.sl | exact One.ep), ?_⟩); refine ⟨_, rfl, ?_⟩)); refine ⟨_, rfl, ?_⟩; refine ⟨_, rfl, ?_⟩); (refine ⟨_, HStep.q rfl (Bq.slice1 (ah rfl) (tab_of rfl) (tab_of rfl) rfl rfl rfl rfl rfl), ?_⟩; refine ⟨_, rfl, ?_⟩); refine ⟨_, rfl, ?_⟩
      (refine AWs.app (ao rfl) rfl rfl (tab_of rfl) (tab_of rfl) rfl rfl (by simp; omega) (by simp; omega) rfl (by first | ((repeat (first | exact PlainHp.nil | refine PlainHp.var ?_ | refine PlainHp.row ?_ | refine PlainHp.dead ?_)); done) | fail) rfl ?_); refine Wq Qz.assign ?_; apply AWl.nil; apply AThen.normal; apply AWp.seq; apply AWp.region; refine Wq Qz.move ?_; refine Wq Qz.succ ?_; refine Wq Qz.assign ?_; apply AWl.nil; apply AThen.normal; apply AWp.region; refine Wq Qz.move ?_; refine Wq Qz.succ ?_; refine Wq Qz.assign ?_; apply AWl.nil; apply ABlock.normal
      refine ALoop.next ((P.length - (i + 1)) + (Q.length - (k + 1))) (by omega) ⟨i + 1, k + 1, R ++ [⟨(tAt P i).c + (tAt Q k).c, (tAt P i).m⟩], by omega, by omega, ?_, by simp; omega, rfl, rfl⟩ ?_
      ·rw [mrg_eq hc, if_neg hz] at heq
       rw [← heq]; simp
      ·exact AS.le_of (by refine FrLe.cons rfl (AVle.d rfl) ?_; refine FrLe.cons rfl (AVle.d rfl) ?_; refine FrLe.cons rfl (AVle.own rfl) ?_; refine FrLe.cons rfl (AVle.d rfl) ?_; refine FrLe.cons rfl (AVle.d rfl) ?_; exact FrLe.nil) (by refine HpLe.cons (OwLe.row (map_snoc tmC R ⟨(tAt P i).c + (tAt Q k).c, (tAt P i).m⟩)) ?_; exact HpLe.nil)
    ·have hc' : lex8 (tAt P i).m (tAt Q k).m = 1 := by rw [← lx_lex]; exact hc
     apply AWp.seq; apply AWp.seq; apply AWp.region; refine Wq Qz.move ?_; refine Wq Qz.move ?_; refine Wq Qz.lenN ?_; refine Wq Qz.cmpT ?_; refine Wq Qz.move ?_; refine Ws ?_; refine Ws ?_; refine Ws ?_; refine Ws ?_; refine Wq Qz.pickT ?_; apply AWl.nil; apply AThen.normal; refine AWp.condT (ao rfl) ?_; apply AWp.skip; apply AThen.normal; apply AWp.block; apply AWp.seq; apply AWp.seq
     refine AWp.dr' (DrawOk.self (by kernel_rfl)) [[], [], [(21, 1)], [(20, 0), (22, 2)], [(23, 3)], [], [], [(26, 6)], [(25, 5), (27, 7)], [(28, 8)], [], [], [(30, 10), (31, 11)], [(32, 12)], [(33, 13)], [], [], [(35, 15), (36, 16)], [(37, 17)], [(38, 18)], [(34, 14), (39, 19)], [(40, 20)], [(29, 9), (41, 21)], [(24, 4), (42, 22)]] [[], [], [1], [0, 1, 2], [0, 1, 2, 3], [0, 1, 2, 3, 4], [0, 1, 2, 3, 4], [0, 1, 2, 3, 4, 6], [0, 1, 2, 3, 4, 5, 6, 7], [0, 1, 2, 3, 4, 5, 6, 7, 8], [0, 1, 2, 3, 4, 5, 6, 7, 8, 9], [0, 1, 2, 3, 4, 5, 6, 7, 8, 9], [0, 1, 2, 3, 4, 5, 6, 7, 8, 9, 10, 11], [0, 1, 2, 3, 4, 5, 6, 7, 8, 9, 10, 11, 12], [0, 1, 2, 3, 4, 5, 6, 7, 8, 9, 10, 11, 12, 13], [0, 1, 2, 3, 4, 5, 6, 7, 8, 9], [0, 1, 2, 3, 4, 5, 6, 7, 8, 9], [0, 1, 2, 3, 4, 5, 6, 7, 8, 9, 15, 16], [0, 1, 2, 3, 4, 5, 6, 7, 8, 9, 15, 16, 17], [0, 1, 2, 3, 4, 5, 6, 7, 8, 9, 15, 16, 17, 18], [0, 1, 2, 3, 4, 5, 6, 7, 8, 9, 10, 11, 12, 13, 14, 15, 16, 17, 18, 19], [0, 1, 2, 3, 4, 5, 6, 7, 8, 9, 10, 11, 12, 13, 14, 15, 16, 17, 18, 19, 20], [0, 1, 2, 3, 4, 5, 6, 7, 8, 9, 10, 11, 12, 13, 14, 15, 16, 17, 18, 19, 20, 21], [0, 1, 2, 3, 4, 5, 6, 7, 8, 9, 10, 11, 12, 13, 14, 15, 16, 17, 18, 19, 20, 21, 22]] rfl (by kernel_rfl) (by kernel_rfl) (by kernel_rfl) ?_
     refine Xq Qz.move ?_; refine Xq Qz.move ?_; refine Xq Qz.lenN ?_; refine Xq Qz.cmpF ?_; refine Xq Qz.move ?_; refine Xg Qz.move ?_; refine Xg Qz.move ?_; refine Xg Qz.lenN ?_; refine Xg Qz.cmpT ?_; refine Xg Qz.move ?_; refine Xg Qz.move ?_; refine Xg Qz.move ?_; refine Xg Qz.indexN ?_; refine Xg Qz.fldE ?_; refine Xg Qz.loadEf ?_; refine Xg Qz.move ?_; refine Xg Qz.move ?_; refine Xg Qz.indexN ?_; refine Xg Qz.fldE ?_; refine Xg Qz.loadEf ?_; refine Xg (Qz.call (RmCmp_abs (tAt P i).m (tAt Q k).m)) ?_; refine Xg Qz.cmpT ?_; refine Xg Qz.pickT ?_; refine Xq Qz.pickF ?_; refine ⟨_, rfl, ?_⟩
     apply AWl.nil; apply AThen.normal; refine AWp.condT (ao rfl) ?_; apply AWp.seq; apply AWp.region; refine Wq Qz.move ?_; refine Wq Qz.move ?_; refine Wq Qz.move ?_; refine Wq Qz.indexN ?_; refine Wq Qz.loadEf ?_; (refine AWs.q rfl rfl ?_; refine ⟨_, Bq.slice1 (ao rfl) (tab_of rfl) (tab_of rfl) rfl rfl rfl rfl rfl, ?_⟩); (refine AWs.app (ao rfl) rfl rfl (tab_of rfl) (tab_of rfl) rfl rfl (by simp; omega) (by simp; omega) rfl (by first | ((repeat (first | exact PlainHp.nil | refine PlainHp.var ?_ | refine PlainHp.row ?_ | refine PlainHp.dead ?_)); done) | fail) rfl ?_); refine Wq Qz.assign ?_; apply AWl.nil; apply AThen.normal; apply AWp.seq; apply AWp.region; refine Wq Qz.move ?_; refine Wq Qz.succ ?_; refine Wq Qz.assign ?_; apply AWl.nil; apply AThen.normal; apply AWp.exit; apply AThen.exit; apply ABlock.hit
     refine ALoop.next ((P.length - (i + 1)) + (Q.length - k)) (by omega) ⟨i + 1, k, R ++ [tAt P i], by omega, by omega, ?_, by simp; omega, rfl, rfl⟩ ?_
     ·rw [mrg_gt hc] at heq
      rw [← heq, hdQ]; simp
     ·exact AS.le_of (by refine FrLe.cons rfl (AVle.d rfl) ?_; refine FrLe.cons rfl (AVle.d rfl) ?_; refine FrLe.cons rfl (AVle.own rfl) ?_; refine FrLe.cons rfl (AVle.d rfl) ?_; refine FrLe.cons rfl (AVle.d rfl) ?_; exact FrLe.nil) (by refine HpLe.cons (OwLe.row (map_snoc tmC R (tAt P i))) ?_; exact HpLe.nil)
   ·apply AWp.seq; apply AWp.seq; apply AWp.region; refine Wq Qz.move ?_; refine Wq Qz.move ?_; refine Wq Qz.lenN ?_; refine Wq Qz.cmpT ?_; refine Wq Qz.move ?_; refine Ws ?_; refine Ws ?_; refine Ws ?_; refine Ws ?_; refine Wq Qz.pickT ?_; apply AWl.nil; apply AThen.normal; refine AWp.condT (ao rfl) ?_; apply AWp.skip; apply AThen.normal; apply AWp.block; apply AWp.seq; apply AWp.seq
    refine AWp.dr' (DrawOk.self (by kernel_rfl)) [[], [], [(21, 1)], [(20, 0), (22, 2)], [(23, 3)], [], [], [(26, 6)], [(25, 5), (27, 7)], [(28, 8)], [], [], [(30, 10), (31, 11)], [(32, 12)], [(33, 13)], [], [], [(35, 15), (36, 16)], [(37, 17)], [(38, 18)], [(34, 14), (39, 19)], [(40, 20)], [(29, 9), (41, 21)], [(24, 4), (42, 22)]] [[], [], [1], [0, 1, 2], [0, 1, 2, 3], [0, 1, 2, 3, 4], [0, 1, 2, 3, 4], [0, 1, 2, 3, 4, 6], [0, 1, 2, 3, 4, 5, 6, 7], [0, 1, 2, 3, 4, 5, 6, 7, 8], [0, 1, 2, 3, 4, 5, 6, 7, 8, 9], [0, 1, 2, 3, 4, 5, 6, 7, 8, 9], [0, 1, 2, 3, 4, 5, 6, 7, 8, 9, 10, 11], [0, 1, 2, 3, 4, 5, 6, 7, 8, 9, 10, 11, 12], [0, 1, 2, 3, 4, 5, 6, 7, 8, 9, 10, 11, 12, 13], [0, 1, 2, 3, 4, 5, 6, 7, 8, 9], [0, 1, 2, 3, 4, 5, 6, 7, 8, 9], [0, 1, 2, 3, 4, 5, 6, 7, 8, 9, 15, 16], [0, 1, 2, 3, 4, 5, 6, 7, 8, 9, 15, 16, 17], [0, 1, 2, 3, 4, 5, 6, 7, 8, 9, 15, 16, 17, 18], [0, 1, 2, 3, 4, 5, 6, 7, 8, 9, 10, 11, 12, 13, 14, 15, 16, 17, 18, 19], [0, 1, 2, 3, 4, 5, 6, 7, 8, 9, 10, 11, 12, 13, 14, 15, 16, 17, 18, 19, 20], [0, 1, 2, 3, 4, 5, 6, 7, 8, 9, 10, 11, 12, 13, 14, 15, 16, 17, 18, 19, 20, 21], [0, 1, 2, 3, 4, 5, 6, 7, 8, 9, 10, 11, 12, 13, 14, 15, 16, 17, 18, 19, 20, 21, 22]] rfl (by kernel_rfl) (by kernel_rfl) (by kernel_rfl) ?_
    refine Xq Qz.move ?_; refine Xq Qz.move ?_; refine Xq Qz.lenN ?_; refine Xq Qz.cmpT ?_; refine Xq Qz.move ?_; refine Xs ?_; refine Xs ?_; refine Xs ?_; refine Xs ?_; refine Xs ?_; refine Xs ?_; refine Xs ?_; refine Xs ?_; refine Xs ?_; refine Xs ?_; refine Xs ?_; refine Xs ?_; refine Xs ?_; refine Xs ?_; refine Xs ?_; refine Xs ?_; refine Xs ?_; refine Xs ?_; refine Xq Qz.pickT ?_; refine ⟨_, rfl, ?_⟩
    apply AWl.nil; apply AThen.normal; refine AWp.condT (ao rfl) ?_; apply AWp.seq; apply AWp.region; refine Wq Qz.move ?_; refine Wq Qz.move ?_; refine Wq Qz.move ?_; refine Wq Qz.indexN ?_; refine Wq Qz.loadEf ?_; (refine AWs.q rfl rfl ?_; refine ⟨_, Bq.slice1 (ao rfl) (tab_of rfl) (tab_of rfl) rfl rfl rfl rfl rfl, ?_⟩); (refine AWs.app (ao rfl) rfl rfl (tab_of rfl) (tab_of rfl) rfl rfl (by simp; omega) (by simp; omega) rfl (by first | ((repeat (first | exact PlainHp.nil | refine PlainHp.var ?_ | refine PlainHp.row ?_ | refine PlainHp.dead ?_)); done) | fail) rfl ?_); refine Wq Qz.assign ?_; apply AWl.nil; apply AThen.normal; apply AWp.seq; apply AWp.region; refine Wq Qz.move ?_; refine Wq Qz.succ ?_; refine Wq Qz.assign ?_; apply AWl.nil; apply AThen.normal; apply AWp.exit; apply AThen.exit; apply ABlock.hit
    refine ALoop.next ((P.length - (i + 1)) + (Q.length - k)) (by omega) ⟨i + 1, k, R ++ [tAt P i], by omega, by omega, ?_, by simp; omega, rfl, rfl⟩ ?_
    ·have hq : Q.drop k = [] := List.drop_eq_nil_of_le (by omega)
     rw [hdP, hq, mrg_nil] at heq
     rw [← heq, hq, mrg_nil]; simp
    ·exact AS.le_of (by refine FrLe.cons rfl (AVle.d rfl) ?_; refine FrLe.cons rfl (AVle.d rfl) ?_; refine FrLe.cons rfl (AVle.own rfl) ?_; refine FrLe.cons rfl (AVle.d rfl) ?_; refine FrLe.cons rfl (AVle.d rfl) ?_; exact FrLe.nil) (by refine HpLe.cons (OwLe.row (map_snoc tmC R (tAt P i))) ?_; exact HpLe.nil)
  ·have hp : P.drop i = [] := List.drop_eq_nil_of_le (by omega)
   by_cases hkq : k < Q.length
   ·have hdQ := drop_tAt hkq
    apply AWp.seq; apply AWp.seq; apply AWp.region; refine Wq Qz.move ?_; refine Wq Qz.move ?_; refine Wq Qz.lenN ?_; refine Wq Qz.cmpF ?_; refine Wq Qz.move ?_; refine Wg Qz.move ?_; refine Wg Qz.move ?_; refine Wg Qz.lenN ?_; refine Wg Qz.cmpT ?_; refine Wq Qz.pickF ?_; apply AWl.nil; apply AThen.normal; refine AWp.condT (ao rfl) ?_; apply AWp.skip; apply AThen.normal; apply AWp.block; apply AWp.seq; apply AWp.seq
    refine AWp.dr' (DrawOk.self (by kernel_rfl)) [[], [], [(21, 1)], [(20, 0), (22, 2)], [(23, 3)], [], [], [(26, 6)], [(25, 5), (27, 7)], [(28, 8)], [], [], [(30, 10), (31, 11)], [(32, 12)], [(33, 13)], [], [], [(35, 15), (36, 16)], [(37, 17)], [(38, 18)], [(34, 14), (39, 19)], [(40, 20)], [(29, 9), (41, 21)], [(24, 4), (42, 22)]] [[], [], [1], [0, 1, 2], [0, 1, 2, 3], [0, 1, 2, 3, 4], [0, 1, 2, 3, 4], [0, 1, 2, 3, 4, 6], [0, 1, 2, 3, 4, 5, 6, 7], [0, 1, 2, 3, 4, 5, 6, 7, 8], [0, 1, 2, 3, 4, 5, 6, 7, 8, 9], [0, 1, 2, 3, 4, 5, 6, 7, 8, 9], [0, 1, 2, 3, 4, 5, 6, 7, 8, 9, 10, 11], [0, 1, 2, 3, 4, 5, 6, 7, 8, 9, 10, 11, 12], [0, 1, 2, 3, 4, 5, 6, 7, 8, 9, 10, 11, 12, 13], [0, 1, 2, 3, 4, 5, 6, 7, 8, 9], [0, 1, 2, 3, 4, 5, 6, 7, 8, 9], [0, 1, 2, 3, 4, 5, 6, 7, 8, 9, 15, 16], [0, 1, 2, 3, 4, 5, 6, 7, 8, 9, 15, 16, 17], [0, 1, 2, 3, 4, 5, 6, 7, 8, 9, 15, 16, 17, 18], [0, 1, 2, 3, 4, 5, 6, 7, 8, 9, 10, 11, 12, 13, 14, 15, 16, 17, 18, 19], [0, 1, 2, 3, 4, 5, 6, 7, 8, 9, 10, 11, 12, 13, 14, 15, 16, 17, 18, 19, 20], [0, 1, 2, 3, 4, 5, 6, 7, 8, 9, 10, 11, 12, 13, 14, 15, 16, 17, 18, 19, 20, 21], [0, 1, 2, 3, 4, 5, 6, 7, 8, 9, 10, 11, 12, 13, 14, 15, 16, 17, 18, 19, 20, 21, 22]] rfl (by kernel_rfl) (by kernel_rfl) (by kernel_rfl) ?_
    refine Xq Qz.move ?_; refine Xq Qz.move ?_; refine Xq Qz.lenN ?_; refine Xq Qz.cmpF ?_; refine Xq Qz.move ?_; refine Xg Qz.move ?_; refine Xg Qz.move ?_; refine Xg Qz.lenN ?_; refine Xg Qz.cmpF ?_; refine Xg Qz.move ?_; refine Xs ?_; refine Xs ?_; refine Xs ?_; refine Xs ?_; refine Xs ?_; refine Xs ?_; refine Xs ?_; refine Xs ?_; refine Xs ?_; refine Xs ?_; refine Xs ?_; refine Xs ?_; refine Xg Qz.pickF ?_; refine Xq Qz.pickF ?_; refine ⟨_, rfl, ?_⟩
    apply AWl.nil; apply AThen.normal; refine AWp.condF (ao rfl) ?_; apply AWp.skip; apply AThen.normal; apply AWp.seq; apply AWp.seq
    refine AWp.dr' (DrawOk.self (by kernel_rfl)) [[], [], [(54, 1)], [(53, 0), (55, 2)], [(56, 3)], [], [], [(58, 5), (59, 6)], [(60, 7)], [(61, 8)], [], [], [(63, 10), (64, 11)], [(65, 12)], [(66, 13)], [(62, 9), (67, 14)], [(68, 15)], [(57, 4), (69, 16)]] [[], [], [1], [0, 1, 2], [0, 1, 2, 3], [0, 1, 2, 3, 4], [0, 1, 2, 3, 4], [0, 1, 2, 3, 4, 5, 6], [0, 1, 2, 3, 4, 5, 6, 7], [0, 1, 2, 3, 4, 5, 6, 7, 8], [0, 1, 2, 3, 4], [0, 1, 2, 3, 4], [0, 1, 2, 3, 4, 10, 11], [0, 1, 2, 3, 4, 10, 11, 12], [0, 1, 2, 3, 4, 10, 11, 12, 13], [0, 1, 2, 3, 4, 5, 6, 7, 8, 9, 10, 11, 12, 13, 14], [0, 1, 2, 3, 4, 5, 6, 7, 8, 9, 10, 11, 12, 13, 14, 15], [0, 1, 2, 3, 4, 5, 6, 7, 8, 9, 10, 11, 12, 13, 14, 15, 16]] rfl (by kernel_rfl) (by kernel_rfl) (by kernel_rfl) ?_
    refine Xq Qz.move ?_; refine Xq Qz.move ?_; refine Xq Qz.lenN ?_; refine Xq Qz.cmpT ?_; refine Xq Qz.move ?_; refine Xs ?_; refine Xs ?_; refine Xs ?_; refine Xs ?_; refine Xs ?_; refine Xs ?_; refine Xs ?_; refine Xs ?_; refine Xs ?_; refine Xs ?_; refine Xs ?_; refine Xs ?_; refine Xq Qz.pickT ?_; refine ⟨_, rfl, ?_⟩
    apply AWl.nil; apply AThen.normal; refine AWp.condT (ao rfl) ?_; apply AWp.seq; apply AWp.region; refine Wq Qz.move ?_; refine Wq Qz.move ?_; refine Wq Qz.move ?_; refine Wq Qz.indexN ?_; refine Wq Qz.loadEf ?_; (refine AWs.q rfl rfl ?_; refine ⟨_, Bq.slice1 (ao rfl) (tab_of rfl) (tab_of rfl) rfl rfl rfl rfl rfl, ?_⟩); (refine AWs.app (ao rfl) rfl rfl (tab_of rfl) (tab_of rfl) rfl rfl (by simp; omega) (by simp; omega) rfl (by first | ((repeat (first | exact PlainHp.nil | refine PlainHp.var ?_ | refine PlainHp.row ?_ | refine PlainHp.dead ?_)); done) | fail) rfl ?_); refine Wq Qz.assign ?_; apply AWl.nil; apply AThen.normal; apply AWp.seq; apply AWp.region; refine Wq Qz.move ?_; refine Wq Qz.succ ?_; refine Wq Qz.assign ?_; apply AWl.nil; apply AThen.normal; apply AWp.exit; apply AThen.exit; apply ABlock.hit
    refine ALoop.next ((P.length - i) + (Q.length - (k + 1))) (by omega) ⟨i, k + 1, R ++ [tAt Q k], by omega, by omega, ?_, by simp; omega, rfl, rfl⟩ ?_
    ·rw [hdQ, hp, nil_mrg] at heq
     rw [← heq, hp, nil_mrg]; simp
    ·exact AS.le_of (by refine FrLe.cons rfl (AVle.d rfl) ?_; refine FrLe.cons rfl (AVle.d rfl) ?_; refine FrLe.cons rfl (AVle.own rfl) ?_; refine FrLe.cons rfl (AVle.d rfl) ?_; refine FrLe.cons rfl (AVle.d rfl) ?_; exact FrLe.nil) (by refine HpLe.cons (OwLe.row (map_snoc tmC R (tAt Q k))) ?_; exact HpLe.nil)
   ·apply AWp.seq; apply AWp.seq; apply AWp.region; refine Wq Qz.move ?_; refine Wq Qz.move ?_; refine Wq Qz.lenN ?_; refine Wq Qz.cmpF ?_; refine Wq Qz.move ?_; refine Wg Qz.move ?_; refine Wg Qz.move ?_; refine Wg Qz.lenN ?_; refine Wg Qz.cmpF ?_; refine Wq Qz.pickF ?_; apply AWl.nil; apply AThen.normal; refine AWp.condF (ao rfl) ?_; apply AWp.exit; apply AThen.exit; apply ALoop.exit; apply ABlock.hit; apply AThen.normal; apply AWp.seq; apply AWp.region; refine Wq Qz.move ?_; refine Wq Qz.assign ?_; apply AWl.nil; apply AThen.normal; apply AWp.ret
    have hq : Q.drop k = [] := List.drop_eq_nil_of_le (by omega)
    exact Fin.ret (Rets.of1 (ResV.tmp rfl rfl) (D.le.of_eq (by rw [← heq, hp, hq, nil_mrg, List.append_nil]; rfl)))
end Go.Proofs.YteicdddphdomkaaGreat
namespace Go.Proofs.YteicdddphdomkaaGreat
open Go.RowKit
set_option maxRecDepth 100000
theorem RTimes0_abs (c : Rat) (m : Nat → Int) (P : List Tm) (hc : c = 0) : Abs Tryz.prog 52 [agD (ratC c), agD (monC m), polD P] (tupD [polD [], ex (.int .i64 0)]) := by
 have hs := num_sign0.2 hc
 refine Abs.intro Tryz.func52 rfl (callFunc_run Tryz.func52 (by kernel_rfl) (by kernel_rfl)) rfl fun s0 => ?_
 rw [Tryz.ntmps52]
 apply AWp.seq; apply AWp.region; refine AWs.bx (ao rfl) rfl rfl rfl rfl ?_; refine AWs.bx (ao rfl) rfl rfl rfl rfl ?_; refine Wq Qz.assign ?_; refine Wq Qz.assign ?_; apply AWl.nil; apply AThen.normal; apply AWp.seq; apply AWp.region; refine AWs.b0 (tab_of rfl) (tab_of rfl) rfl rfl rfl rfl rfl ?_; refine Wq Qz.assign ?_; apply AWl.nil; apply AThen.normal; apply AWp.seq; apply AWp.seq; apply AWp.region; refine Wq Qz.ldD ?_; refine Wq (Qz.call (RSign_abs c)) ?_; refine Wq Qz.cmpT ?_; apply AWl.nil; apply AThen.normal; refine AWp.condT (ao rfl) ?_; apply AWp.seq; apply AWp.region; refine Wq Qz.assign ?_; refine Wq Qz.assign ?_; apply AWl.nil; apply AThen.normal; apply AWp.ret; apply AThen.ret
 exact Fin.ret (Rets.of2 (ResV.tmp rfl rfl) (ResV.tmp rfl rfl) (D.le.tup2 (D.le_nilP) (D.le.refl _)))
theorem RTimes_abs (c : Rat) (m : Nat → Int) (P : List Tm) (N M : Nat) (hc : c ≠ 0) (hcs : RSz c N) (hm : In8 m 0 65535) (hP : PSz P M) (hPi : PIn P 0 65535) (hmP : ∀ t ∈ P, In8 (add8 m t.m) 0 65535) (hn : P.length ≤ 100000) (hNM : N + M ≤ 4398046511103) : Abs Tryz.prog 52 [agD (ratC c), agD (monC m), polD P] (tupD [polD (tms c m P), ex (.int .i64 0)]) := by
 have hs : c.num.sign ≠ 0 := fun e => hc (num_sign0.1 e)
 refine Abs.intro Tryz.func52 rfl (callFunc_run Tryz.func52 (by kernel_rfl) (by kernel_rfl)) rfl fun s0 => ?_
 rw [Tryz.ntmps52]
 apply AWp.seq; apply AWp.region; refine AWs.bx (ao rfl) rfl rfl rfl rfl ?_; refine AWs.bx (ao rfl) rfl rfl rfl rfl ?_; refine Wq Qz.assign ?_; refine Wq Qz.assign ?_; apply AWl.nil; apply AThen.normal; apply AWp.seq; apply AWp.region; refine AWs.b0 (tab_of rfl) (tab_of rfl) rfl rfl rfl rfl rfl ?_; refine Wq Qz.assign ?_; apply AWl.nil; apply AThen.normal; apply AWp.seq; apply AWp.seq; apply AWp.region; refine Wq Qz.ldD ?_; refine Wq (Qz.call (RSign_abs c)) ?_; refine Wq Qz.cmpF ?_; apply AWl.nil; apply AThen.normal; refine AWp.condF (ao rfl) ?_; apply AWp.skip; apply AThen.normal; apply AWp.seq; apply AWp.seq; apply AWp.region; refine Wq Qz.assign ?_; apply AWl.nil; apply AThen.normal; apply AWp.block
 refine AWp.loop (fun mz σ => ∃ k, k ≤ P.length ∧ mz = P.length - k ∧ σ = ⟨[(2, .d (polD P)), (3, .ptr 0 0), (4, .ptr 1 0), (8, .own 2), (9, .d (ex (.int .i64 (k : Nat))))], [.var 29 ((ratC c).map .d), .var 31 ((monC m).map .d), .row 33 12 ((tms c m (P.take k)).map tmC)]⟩) ?le ⟨0, by omega, rfl, rfl⟩ ?round
 case le => exact AS.le_of (by refine FrLe.cons rfl (AVle.d rfl) ?_; refine FrLe.cons rfl (AVle.ptr rfl) ?_; refine FrLe.cons rfl (AVle.ptr rfl) ?_; refine FrLe.cons rfl (AVle.own rfl) ?_; refine FrLe.cons rfl (AVle.d rfl) ?_; exact FrLe.nil) (by refine HpLe.cons (OwLe.varD rfl) ?_; refine HpLe.cons (OwLe.varD rfl) ?_; refine HpLe.cons (OwLe.row rfl) ?_; exact HpLe.nil)
 case round =>
  rintro mz _ ⟨k, hk, rfl, rfl⟩
  by_cases hlt : k < P.length
  ·have ht := tAt_mem hlt
   have htk := take_tAt hlt
   apply AWp.seq; apply AWp.seq; apply AWp.region; refine Wq Qz.move ?_; refine Wq Qz.move ?_; refine Wq Qz.lenN ?_; refine Wq Qz.cmpT ?_; apply AWl.nil; apply AThen.normal; refine AWp.condT (ao rfl) ?_; apply AWp.skip; apply AThen.normal; apply AWp.seq; apply AWp.block; apply AWp.seq
   refine AWp.dr' (DrawOk.float (e := 9) (by kernel_rfl) (AddE.keep (AddE.keep (AddE.keep (AddE.keep (AddE.keep (AddE.keep (AddE.keep (AddE.keep (AddE.keep (AddE.keep (AddE.keep (AddE.add (AddE.keep AddE.nil))))))))))))) (by kernel_rfl)) [[], [], [], [(24, 1), (25, 2)], [(26, 3)], [(27, 4)], [(23, 0), (28, 5)], [(29, 6)], [(22, 7)], [(22, 7)], []] [[], [], [], [1, 2], [1, 2, 3], [1, 2, 3, 4], [0, 1, 2, 3, 4, 5], [0, 1, 2, 3, 4, 5, 6], [0, 1, 2, 3, 4, 5, 6, 7], [0, 1, 2, 3, 4, 5, 6, 7], []] rfl (by kernel_rfl) (by kernel_rfl) (by kernel_rfl) ?_
   refine Xq Qz.ldD ?_; refine Xq Qz.move ?_; refine Xq Qz.move ?_; refine Xq Qz.indexN ?_; refine Xq Qz.fldE ?_; refine Xq Qz.loadEf ?_; refine Xq (Qz.call (RmMul_abs m (tAt P k).m hm (hPi _ ht) (hmP _ ht))) ?_; refine Xq Qz.move ?_; refine Xq Qz.ext ?_; refine Xq Qz.ext ?_; refine Xn ?_; refine ⟨_, rfl, ?_⟩
   refine AWs.stF (ao rfl) (ao rfl) rfl (tab_of rfl) rfl rfl rfl ?_; refine Wq Qz.assign ?_; apply AWl.nil; apply OnlyN.mk'; apply AThen.normal; apply AWp.seq; apply AWp.seq; apply AWp.region; refine Wq Qz.move ?_; refine Wq Qz.cmpF ?_; apply AWl.nil; apply AThen.normal; refine AWp.condF (ao rfl) ?_; apply AWp.skip; apply AThen.normal
   refine AWp.dr' (DrawOk.self (by kernel_rfl)) [[], [], [], [], [(36, 2), (37, 3)], [(38, 4)], [(39, 5)], [(35, 1), (40, 6)], [], [(41, 7), (42, 8)], [(43, 9)]] [[], [], [], [], [2, 3], [2, 3, 4], [2, 3, 4, 5], [1, 2, 3, 4, 5, 6], [], [1, 2, 3, 4, 5, 6, 7, 8], [1, 2, 3, 4, 5, 6, 7, 8, 9]] rfl (by kernel_rfl) (by kernel_rfl) (by kernel_rfl) ?_
   refine Xq Qz.move ?_; refine Xq Qz.ldD ?_; refine Xq Qz.move ?_; refine Xq Qz.move ?_; refine Xq Qz.indexN ?_; refine Xq Qz.fldE ?_; refine Xq Qz.ldE ?_; refine Xq (Qz.call (RMul_abs c (tAt P k).c N M hcs (hP _ ht) hNM)) ?_; refine Xq Qz.ldD ?_; (refine Hq rfl ?_; refine Bq.build (tab_of rfl) rfl rfl rfl ?_; (repeat ((first | refine ⟨_, PartOk.ag (ah rfl), ?_⟩ | refine ⟨_, PartOk.one rfl (by first | exact One.ex_ rfl | exact One.sl | exact One.ep), ?_⟩); refine ⟨_, rfl, ?_⟩)); refine ⟨_, rfl, ?_⟩; refine ⟨_, rfl, ?_⟩); (refine ⟨_, HStep.q rfl (Bq.slice1 (ah rfl) (tab_of rfl) (tab_of rfl) rfl rfl rfl rfl rfl), ?_⟩; refine ⟨_, rfl, ?_⟩); refine ⟨_, rfl, ?_⟩
   (refine AWs.app (ao rfl) rfl rfl (tab_of rfl) (tab_of rfl) rfl rfl (by simp; omega) (by simp; omega) rfl (by first | ((repeat (first | exact PlainHp.nil | refine PlainHp.var ?_ | refine PlainHp.row ?_ | refine PlainHp.dead ?_)); done) | fail) rfl ?_); refine Wq Qz.assign ?_; apply AWl.nil; apply ABlock.normal; apply AThen.normal; apply AWp.region; refine Wq Qz.move ?_; refine Wq Qz.succ ?_; refine Wq Qz.assign ?_; apply AWl.nil
   refine ALoop.next (P.length - (k + 1)) (by omega) ⟨k + 1, by omega, rfl, rfl⟩ ?_
   exact AS.le_of (by refine FrLe.cons rfl (AVle.d rfl) ?_; refine FrLe.cons rfl (AVle.ptr rfl) ?_; refine FrLe.cons rfl (AVle.ptr rfl) ?_; refine FrLe.cons rfl (AVle.own rfl) ?_; refine FrLe.cons rfl (AVle.d rfl) ?_; exact FrLe.nil) (by refine HpLe.cons (OwLe.varD rfl) ?_; refine HpLe.cons (OwLe.varD rfl) ?_; (refine HpLe.cons (OwLe.row ((map_snoc tmC _ ⟨c * (tAt P k).c, add8 m (tAt P k).m⟩).trans (by rw [← htk]; simp [tms]))) ?_); exact HpLe.nil)
  ·obtain rfl : k = P.length := by omega
   apply AWp.seq; apply AWp.seq; apply AWp.region; refine Wq Qz.move ?_; refine Wq Qz.move ?_; refine Wq Qz.lenN ?_; refine Wq Qz.cmpF ?_; apply AWl.nil; apply AThen.normal; refine AWp.condF (ao rfl) ?_; apply AWp.exit; apply AThen.exit; apply ALoop.exit; apply ABlock.hit; apply AThen.normal; apply AWp.seq; apply AWp.region; refine Wq Qz.move ?_; refine Wq Qz.assign ?_; refine Wq Qz.assign ?_; apply AWl.nil; apply AThen.normal; apply AWp.ret
   exact Fin.ret (Rets.of2 (ResV.tmp rfl rfl) (ResV.tmp rfl rfl) (D.le.tup2 (D.le.of_eq (by rw [List.take_length]; rfl)) (D.le.refl _)))
def sclL (c : Rat) (P : List Tm) : List Tm := if c = 0 then [] else tms c (fun _ => 0) P
theorem RScale_abs (c : Rat) (P : List Tm) (N M : Nat) (hcs : RSz c N) (hP : PSz P M) (hPi : PIn P 0 65535) (hn : P.length ≤ 100000) (hNM : N + M ≤ 4398046511103) : Abs Tryz.prog 104 [agD (ratC c), polD P] (polD (sclL c P)) := by
 by_cases hc : c = 0
 ·refine Abs.intro Tryz.func104 rfl (callFunc_run Tryz.func104 (by kernel_rfl) (by kernel_rfl)) rfl fun s0 => ?_
  rw [Tryz.ntmps104]
  apply AWp.seq; apply AWp.region; refine AWs.bx (ao rfl) rfl rfl rfl rfl ?_; refine Wq Qz.assign ?_; apply AWl.nil; apply AThen.normal; apply AWp.seq; apply AWp.region; refine Wq Qz.ldD ?_; (refine AWs.q rfl rfl ?_; (refine Bq.arr (tab_of rfl) (tab_of rfl) rfl rfl ?_; (repeat ((first | refine ⟨_, PartOk.ag (ao rfl), ?_⟩ | refine ⟨_, PartOk.one rfl (by first | exact One.ex_ rfl | exact One.sl | exact One.ep), ?_⟩); refine ⟨_, rfl, ?_⟩)); refine ⟨_, rfl, ?_⟩)); refine Wq Qz.move ?_; refine Wq (Qz.call (RTimes0_abs c (fun _ => 0) P hc)) ?_; refine Wq Qz.move ?_; refine Wq Qz.ext ?_; refine Wq Qz.ext ?_; refine Wq Qz.assign ?_; refine Wq Qz.assign ?_; apply AWl.nil; apply AThen.normal; apply AWp.seq; apply AWp.region; refine Wq Qz.move ?_; refine Wq Qz.assign ?_; apply AWl.nil; apply AThen.normal; apply AWp.ret
  exact Fin.ret (Rets.of1 (ResV.tmp rfl rfl) (D.le_pol (by rw [sclL, if_pos hc])))
 ·refine Abs.intro Tryz.func104 rfl (callFunc_run Tryz.func104 (by kernel_rfl) (by kernel_rfl)) rfl fun s0 => ?_
  rw [Tryz.ntmps104]
  apply AWp.seq; apply AWp.region; refine AWs.bx (ao rfl) rfl rfl rfl rfl ?_; refine Wq Qz.assign ?_; apply AWl.nil; apply AThen.normal; apply AWp.seq; apply AWp.region; refine Wq Qz.ldD ?_; (refine AWs.q rfl rfl ?_; (refine Bq.arr (tab_of rfl) (tab_of rfl) rfl rfl ?_; (repeat ((first | refine ⟨_, PartOk.ag (ao rfl), ?_⟩ | refine ⟨_, PartOk.one rfl (by first | exact One.ex_ rfl | exact One.sl | exact One.ep), ?_⟩); refine ⟨_, rfl, ?_⟩)); refine ⟨_, rfl, ?_⟩)); refine Wq Qz.move ?_; refine Wq (Qz.call (RTimes_abs c (fun _ => 0) P N M hc hcs In8.zero hP hPi (fun t ht => by rw [zero_add8]; exact hPi t ht) hn hNM)) ?_; refine Wq Qz.move ?_; refine Wq Qz.ext ?_; refine Wq Qz.ext ?_; refine Wq Qz.assign ?_; refine Wq Qz.assign ?_; apply AWl.nil; apply AThen.normal; apply AWp.seq; apply AWp.region; refine Wq Qz.move ?_; refine Wq Qz.assign ?_; apply AWl.nil; apply AThen.normal; apply AWp.ret
  exact Fin.ret (Rets.of1 (ResV.tmp rfl rfl) (D.le_pol (by rw [sclL, if_neg hc])))
theorem tms_psz {c : Rat} {m : Nat → Int} {P : List Tm} {N M : Nat} (hc : RSz c N) (hP : PSz P M) : PSz (tms c m P) (N + M) := fun t ht => by
 obtain ⟨s, hs, rfl⟩ := List.mem_map.1 ht
 exact hc.mul (hP s hs)
theorem sclL_psz {c : Rat} {P : List Tm} {N M : Nat} (hc : RSz c N) (hP : PSz P M) : PSz (sclL c P) (N + M) := by
 unfold sclL
 split
 ·intro t ht; cases ht
 ·exact tms_psz hc hP
theorem sclL_length (c : Rat) (P : List Tm) : (sclL c P).length ≤ P.length := by
 unfold sclL
 split <;> simp
theorem rsz_sm {x : Int} (h0 : -1000 ≤ x) (h1 : x ≤ 1000) : RSz ((x : Int) : Rat) 1 := by
 refine ⟨?_, ?_⟩
 ·show (digs (x : Int).natAbs).length ≤ 1
  exact len_of_lt (by simp only [BB, Nat.pow_one]; omega)
 ·show (digs 1).length ≤ 1
  exact len_of_lt (by simp only [BB, Nat.pow_one]; omega)
theorem RSub_abs (P Q : List Tm) (N M : Nat) (hP : PSz P N) (hQ : PSz Q M) (hQi : PIn Q 0 65535) (hNM : N + M + 2 ≤ 4398046511103) (hn : P.length + Q.length ≤ 100000) : Abs Tryz.prog 57 [polD P, polD Q] (polD (mrg P (sclL (-1 : Int) Q))) := by
 have h1 : RSz ((-1 : Int) : Rat) 1 := rsz_sm (by omega) (by omega)
 have hl := sclL_length (-1 : Int) Q
 refine Abs.intro Tryz.func57 rfl (callFunc_run Tryz.func57 (by kernel_rfl) (by kernel_rfl)) rfl fun s0 => ?_
 rw [Tryz.ntmps57]
 apply AWp.seq; apply AWp.region; refine Wq Qz.assign ?_; apply AWl.nil; apply AThen.normal; apply AWp.seq; apply AWp.region; refine Wq Qz.move ?_; refine Wq (Qz.call (RWhole_abs (-1) (by omega) (by omega))) ?_; refine Wq Qz.move ?_; refine Wq (Qz.call (RScale_abs (-1 : Int) Q 1 M h1 hQ hQi (by omega) (by omega))) ?_; refine Wq (Qz.call (RAdd_pol P (sclL (-1 : Int) Q) N (1 + M) hP (sclL_psz h1 hQ) (by omega) (by omega))) ?_; refine Wq Qz.assign ?_; apply AWl.nil; apply AThen.normal; apply AWp.ret
 exact Fin.ret (Rets.of1 (ResV.tmp rfl rfl) (D.le.refl _))
end Go.Proofs.YteicdddphdomkaaGreat
namespace Go.Proofs.YteicdddphdomkaaGreat
open Go.RowKit
theorem Canon.nil : Canon [] := ⟨List.Pairwise.nil, fun t h => by cases h⟩
theorem Canon.single {t : Tm} (h : t.c ≠ 0) : Canon [t] := ⟨List.pairwise_singleton _ _, fun u hu => by rw [List.mem_singleton.1 hu]; exact h⟩
theorem mrg_psz {N M : Nat} : ∀ {P Q : List Tm}, PSz P N → PSz Q M → PSz (mrg P Q) (N + M + 1)
 | [], Q, _, h => by simp only [mrg]; exact h.mono (by omega)
 | s :: P, [], h, _ => by simp only [mrg]; exact h.mono (by omega)
 | s :: P, t :: Q, hP, hQ => by
  have hP' : PSz P N := fun u hu => hP u (by simp [hu])
  have hQ' : PSz Q M := fun u hu => hQ u (by simp [hu])
  have con : ∀ {x : Tm} {L : List Tm}, RSz x.c (N + M + 1) → PSz L (N + M + 1) → PSz (x :: L) (N + M + 1) := fun h1 h2 u hu => by
   rcases List.mem_cons.1 hu with rfl | hu
   ·exact h1
   ·exact h2 u hu
  rw [mrg]
  split
  ·exact con ((hP s (by simp)).mono (by omega)) (mrg_psz hP' hQ)
  ·split
   ·exact con ((hQ t (by simp)).mono (by omega)) (mrg_psz hP hQ')
   ·split
    ·exact mrg_psz hP' hQ'
    ·exact con ((hP s (by simp)).add (hQ t (by simp))) (mrg_psz hP' hQ')
termination_by P Q => P.length + Q.length
theorem mrg_pin {P Q : List Tm} {a b : Int} (hP : PIn P a b) (hQ : PIn Q a b) : PIn (mrg P Q) a b := fun u hu => by
 rcases mrg_mem P Q u hu with ⟨s, hs, e⟩ | ⟨s, hs, e⟩
 ·rw [← e]; exact hP s hs
 ·rw [← e]; exact hQ s hs
theorem SameL.symm : ∀ {P Q : List Tm}, SameL P Q → SameL Q P
 | [], [], _ => trivial
 | _ :: _, _ :: _, h => ⟨h.1.symm, h.2.1.symm, SameL.symm h.2.2⟩
 | [], _ :: _, h => h.elim
 | _ :: _, [], h => h.elim
structure PB (P : List Tm) (n N : Nat) (d : Int) : Prop where
 can : Canon P
 len : P.length ≤ n
 sz : PSz P N
 ex : PIn P 0 d
theorem PB.mono {P : List Tm} {n N n' N' : Nat} {d d' : Int} (h : PB P n N d) (h1 : n ≤ n') (h2 : N ≤ N') (h3 : d ≤ d') : PB P n' N' d' := ⟨h.can, Nat.le_trans h.len h1, h.sz.mono h2, h.ex.mono (Int.le_refl _) h3⟩
theorem PB.nil {n N : Nat} {d : Int} : PB [] n N d := ⟨Canon.nil, Nat.zero_le _, fun t h => (by cases h), fun t h => (by cases h)⟩
theorem PB.add {P Q : List Tm} {n N n' N' : Nat} {d d' : Int} (h : PB P n N d) (k : PB Q n' N' d') : PB (mrg P Q) (n + n') (N + N' + 1) (max d d') :=
 ⟨mrg_canon h.can k.can, by have := mrg_length P Q; have := h.len; have := k.len; omega, mrg_psz h.sz k.sz, mrg_pin (h.ex.mono (Int.le_refl _) (by omega)) (k.ex.mono (Int.le_refl _) (by omega))⟩
def neg (P : List Tm) : List Tm := P.map (fT fun q => -q)
theorem dec_map {f : Tm → Tm} {P : List Tm} (h : Dec P) (hf : ∀ s ∈ P, ∀ t ∈ P, 0 < lx s.m t.m → 0 < lx (f s).m (f t).m) : Dec (P.map f) := by
 refine List.pairwise_map.2 (List.Pairwise.imp_of_mem (fun {a b} ha hb hab => hf a ha b hb hab) h)
theorem neg_canon {P : List Tm} (h : Canon P) : Canon (neg P) := ⟨dec_map h.1 fun _ _ _ _ h => h, fun t ht => by
 obtain ⟨s, hs, rfl⟩ := List.mem_map.1 ht
 intro e
 have e : -s.c = 0 := e
 exact h.2 s hs (by grind)⟩
theorem PB.neg {P : List Tm} {n N : Nat} {d : Int} (h : PB P n N d) : PB (neg P) n N d := ⟨neg_canon h.can, by rw [Go.Proofs.YteicdddphdomkaaGreat.neg, List.length_map]; exact h.len, fun t ht => by
 obtain ⟨s, hs, rfl⟩ := List.mem_map.1 ht
 exact (h.sz s hs).neg, fun t ht => by
 obtain ⟨s, hs, rfl⟩ := List.mem_map.1 ht
 exact h.ex s hs⟩
theorem neg_dot (f : (Nat → Int) → Rat) : ∀ P : List Tm, dot f (neg P) = -dot f P
 | [] => by simp [neg, dot]
 | t :: P => by
  have := neg_dot f P
  simp only [neg, List.map_cons, dot, fT] at this ⊢
  rw [this]; grind
def psub (P Q : List Tm) : List Tm := mrg P (neg Q)
theorem PB.sub {P Q : List Tm} {n N n' N' : Nat} {d d' : Int} (h : PB P n N d) (k : PB Q n' N' d') : PB (psub P Q) (n + n') (N + N' + 1) (max d d') := h.add k.neg
theorem rat_mul_ne {a b : Rat} (ha : a ≠ 0) (hb : b ≠ 0) : a * b ≠ 0 := fun e => by
 rcases Rat.mul_eq_zero.1 e with h | h
 ·exact ha h
 ·exact hb h
theorem tms_canon {c : Rat} {m : Nat → Int} {P : List Tm} (hc : c ≠ 0) (h : Canon P) : Canon (tms c m P) := ⟨dec_map h.1 fun s _ t _ h => by
 show 0 < lx (add8 m s.m) (add8 m t.m)
 rwa [add8_comm m, add8_comm m, lx_add], fun t ht => by
 obtain ⟨s, hs, rfl⟩ := List.mem_map.1 ht
 exact rat_mul_ne hc (h.2 s hs)⟩
theorem add8_in {a b : Nat → Int} {d e : Int} (ha : In8 a 0 d) (hb : In8 b 0 e) : In8 (add8 a b) 0 (d + e) := fun i hi => by
 have := ha i hi
 have := hb i hi
 simp only [add8]
 omega
theorem tms_pb {t : Tm} {P : List Tm} {n N N0 : Nat} {d d0 : Int} (h : PB P n N d) (hc : t.c ≠ 0) (hs : RSz t.c N0) (hm : In8 t.m 0 d0) : PB (tms t.c t.m P) n (N0 + N) (d0 + d) :=
 ⟨tms_canon hc h.can, by rw [tms_length]; exact h.len, tms_psz hs h.sz, fun u hu => by
  obtain ⟨s, hs, rfl⟩ := List.mem_map.1 hu
  exact add8_in hm (h.ex s hs)⟩
def mulTo (A P Q : List Tm) : List Tm := P.foldl (fun a s => mrg a (tms s.c s.m Q)) A
def pmul (P Q : List Tm) : List Tm := mulTo [] P Q
theorem mulTo_pb {Q : List Tm} {n' N' N : Nat} {d d' : Int} (hQ : PB Q n' N' d') : ∀ {P A : List Tm} {k K : Nat}, (∀ t ∈ P, t.c ≠ 0) → PSz P N → PIn P 0 d → PB A k K (d + d') → PB (mulTo A P Q) (k + P.length * n') (K + P.length * (N + N' + 1)) (d + d')
 | [], A, k, K, _, _, _, h => by simpa [mulTo] using h
 | t :: P, A, k, K, h1, h2, h3, h => by
  have ht := tms_pb (t := t) (d0 := d) hQ (h1 t (by simp)) (h2 t (by simp)) (h3 t (by simp))
  have h4 : PB (mrg A (tms t.c t.m Q)) (k + n') (K + (N + N' + 1)) (d + d') := (h.add ht).mono (Nat.le_refl _) (by omega) (by omega)
  have := mulTo_pb hQ (P := P) (fun u hu => h1 u (by simp [hu])) (fun u hu => h2 u (by simp [hu])) (fun u hu => h3 u (by simp [hu])) h4
  refine this.mono ?_ ?_ (Int.le_refl _)
  ·rw [List.length_cons, Nat.succ_mul]; omega
  ·rw [List.length_cons, Nat.succ_mul]; omega
theorem mulTo_sim {Q : List Tm} : ∀ {P A : List Tm}, Sim (mulTo A P Q) (A ++ mulL P Q)
 | [], A => by simp only [mulTo, mulL, List.foldl_nil, List.flatMap_nil, List.append_nil]; exact Sim.refl _
 | t :: P, A => by
  refine (mulTo_sim (P := P) (A := mrg A (tms t.c t.m Q))).trans ?_
  refine ((mrg_sim _ _).append (Sim.refl _)).trans ?_
  simp only [mulL, List.flatMap_cons, tms, List.append_assoc]
  exact Sim.refl _
theorem pmul_sim (P Q : List Tm) : Sim (pmul P Q) (mulL P Q) := mulTo_sim
theorem PB.mul {P Q : List Tm} {n N n' N' : Nat} {d d' : Int} (h : PB P n N d) (k : PB Q n' N' d') (h0 : 0 ≤ d) (h0' : 0 ≤ d') : PB (pmul P Q) (n * n') (n * (N + N' + 1)) (d + d') := by
 have := mulTo_pb (A := []) (k := 0) (K := 0) (d := d) k h.can.2 h.sz h.ex PB.nil
 refine this.mono ?_ ?_ (Int.le_refl _)
 ·rw [Nat.zero_add]; exact Nat.mul_le_mul_right _ h.len
 ·rw [Nat.zero_add]; exact Nat.mul_le_mul_right _ h.len
theorem polD_sim {P Q : List Tm} (hP : Canon P) (hQ : Canon Q) (h : Sim P Q) : polD P = polD Q := polD_same (canon_unique hP hQ h)
theorem neg_sim {P Q : List Tm} (h : Sim P Q) : Sim (neg P) (neg Q) := fun f hf => by rw [neg_dot, neg_dot, h f hf]
theorem PB.same {P Q : List Tm} {n N : Nat} {d : Int} (h : PB P n N d) (hs : SameL P Q) : PB Q n N d := by
 have key : ∀ {P Q : List Tm}, SameL P Q → ∀ t ∈ Q, ∃ s ∈ P, s.c = t.c ∧ Eqv s.m t.m := by
  intro P
  induction P with
  | nil => intro Q h t ht; cases Q with
   | nil => cases ht
   | cons => exact h.elim
  | cons s P ih => intro Q h t ht; cases Q with
   | nil => exact h.elim
   | cons u Q =>
    rcases List.mem_cons.1 ht with rfl | ht
    ·exact ⟨s, by simp, h.1, h.2.1⟩
    ·obtain ⟨x, hx, e⟩ := ih h.2.2 t ht
     exact ⟨x, by simp [hx], e⟩
 have dec : ∀ {P Q : List Tm}, SameL P Q → Dec P → Dec Q := by
  intro P
  induction P with
  | nil => intro Q h _; cases Q with
   | nil => exact List.Pairwise.nil
   | cons => exact h.elim
  | cons s P ih => intro Q h hd; cases Q with
   | nil => exact h.elim
   | cons u Q =>
    have hd := List.pairwise_cons.1 hd
    refine List.pairwise_cons.2 ⟨fun t ht => ?_, ih h.2.2 hd.2⟩
    obtain ⟨x, hx, _, e⟩ := key h.2.2 t ht
    rw [← lx_congr h.2.1 e]
    exact hd.1 x hx
 refine ⟨⟨dec hs h.can.1, fun t ht => ?_⟩, by rw [← hs.length]; exact h.len, fun t ht => ?_, fun t ht => ?_⟩
 ·obtain ⟨s, hs, e, _⟩ := key hs t ht
  rw [← e]; exact h.can.2 s hs
 ·obtain ⟨s, hs, e, _⟩ := key hs t ht
  rw [← e]; exact h.sz s hs
 ·obtain ⟨s, hs, _, e⟩ := key hs t ht
  intro i hi
  rw [← e i hi]; exact h.ex s hs i hi
theorem constL_pb {c : Rat} {N : Nat} (h : RSz c N) {d : Int} (hd : 0 ≤ d) : PB (constL c) 1 N d := by
 unfold constL
 split
 ·exact PB.nil
 ·rename_i hc
  refine ⟨Canon.single hc, by simp, fun t ht => by rw [List.mem_singleton.1 ht]; exact h, fun t ht => by rw [List.mem_singleton.1 ht]; exact fun i hi => ⟨Int.le_refl _, hd⟩⟩
theorem PB.single {t : Tm} {N : Nat} {d : Int} (h : t.c ≠ 0) (hs : RSz t.c N) (hm : In8 t.m 0 d) : PB [t] 1 N d := ⟨Canon.single h, by simp, fun u hu => by rw [List.mem_singleton.1 hu]; exact hs, fun u hu => by rw [List.mem_singleton.1 hu]; exact hm⟩
theorem unitE_in {i : Nat} : In8 (unitE i) 0 1 := fun j _ => by
 unfold unitE setM
 split
 ·omega
 ·exact ⟨Int.le_refl _, (by show (0 : Int) ≤ 1; omega)⟩
end Go.Proofs.YteicdddphdomkaaGreat
namespace Go.Proofs.YteicdddphdomkaaGreat
open Go.RowKit
set_option maxRecDepth 100000
theorem mulTo_take {P Q A : List Tm} {k : Nat} (h : k < P.length) : mulTo A (P.take (k + 1)) Q = mrg (mulTo A (P.take k) Q) (tms (tAt P k).c (tAt P k).m Q) := foldl_tAt (fun a s => mrg a (tms s.c s.m Q)) A h
theorem mulTo_take_pb {P Q : List Tm} {n N n' N' : Nat} {d d' : Int} (h : PB P n N d) (hQ : PB Q n' N' d') (h0 : 0 ≤ d) (h0' : 0 ≤ d') (k : Nat) : PB (mulTo [] (P.take k) Q) (n * n') (n * (N + N' + 1)) (d + d') := by
 have := mulTo_pb (A := []) (k := 0) (K := 0) (d := d) (P := P.take k) hQ (fun t ht => h.can.2 t (List.mem_of_mem_take ht)) (fun t ht => h.sz t (List.mem_of_mem_take ht)) (fun t ht => h.ex t (List.mem_of_mem_take ht)) PB.nil
 have hl : (P.take k).length ≤ n := Nat.le_trans (by rw [List.length_take]; omega) h.len
 refine this.mono ?_ ?_ (Int.le_refl _)
 ·rw [Nat.zero_add]; exact Nat.mul_le_mul_right _ hl
 ·rw [Nat.zero_add]; exact Nat.mul_le_mul_right _ hl
theorem RPMul_pb {P Q : List Tm} {n N n' N' : Nat} {d d' : Int} (hP : PB P n N d) (hQ : PB Q n' N' d') (h0 : 0 ≤ d) (h0' : 0 ≤ d') (hd : d + d' ≤ 65535) (hn0 : n ≤ 100000) (hn : n * n' + n' ≤ 100000) (hN : n * (N + N' + 1) + N + N' + 1 ≤ 4398046511102) : Abs Tryz.prog 115 [polD P, polD Q] (tupD [polD (pmul P Q), ex (.int .i64 0)]) := by
 have hPl := hP.len
 have hQl := hQ.len
 refine Abs.intro Tryz.func115 rfl (callFunc_run Tryz.func115 (by kernel_rfl) (by kernel_rfl)) rfl fun s0 => ?_
 rw [Tryz.ntmps115]
 repeat (first | apply AWp.seq | apply AWp.region | (apply Ga.b0; refine AWs.b0 (tab_of rfl) (tab_of rfl) rfl rfl rfl rfl rfl ?_) | (refine AWs.q rfl rfl ?_; (apply Gt.assign; refine ⟨_, Qs.assign (ao rfl), ?_⟩)) | apply AWl.nil | apply AThen.normal | apply AWp.block)
 refine AWp.loop (fun mz σ => ∃ k, k ≤ P.length ∧ mz = P.length - k ∧ σ = ⟨[(0, .d (polD P)), (1, .d (polD Q)), (6, .d (polD (mulTo [] (P.take k) Q))), (7, .d (ex (.int .i64 (k : Nat))))], []⟩) ?le ⟨0, by omega, rfl, rfl⟩ ?round
 case le => exact AS.le_of (by repeat (first | exact FrLe.nil | refine FrLe.cons rfl (AVle.d rfl) ?_ | refine FrLe.cons rfl (AVle.ownD rfl (D.le.refl _)) ?_)) (by repeat (exact HpLe.nil))
 case round =>
  rintro mz _ ⟨k, hk, rfl, rfl⟩
  by_cases hlt : k < P.length
  ·have ht := tAt_mem hlt
   have hm := hP.ex _ ht
   have hb := mulTo_take_pb hP hQ h0 h0' k
   have hbl := hb.len
   have ht2 := tms_pb (t := tAt P k) hQ (hP.can.2 _ ht) (hP.sz _ ht) hm
   have ht2l := ht2.len
   repeat (first | apply AWp.seq | apply AWp.region | (refine AWs.q rfl rfl ?_; first | (apply Gt.move; refine ⟨_, Qs.move (ao rfl), ?_⟩) | (apply Gt.len; refine ⟨_, Qs.lenN rfl (tab_of rfl), ?_⟩) | (apply Gt.bin; refine ⟨_, Qs.cmpT rfl (ao rfl) (ao rfl) (by first | (simp only [cmpP, List.length_cons, List.length_nil]; omega) | (simp [cmpP]; done) | (simp [cmpP]; omega)), ?_⟩)) | apply AWl.nil | apply AThen.normal | apply AWp.block | apply AWp.skip | (apply Gc.cond; refine AWp.condT (ao rfl) ?_))
   refine AWp.dr' (DrawOk.float (e := 14) (by kernel_rfl) (AddE.keep (AddE.keep (AddE.keep (AddE.keep (AddE.keep (AddE.keep (AddE.keep (AddE.keep (AddE.keep (AddE.keep (AddE.keep (AddE.keep (AddE.keep (AddE.keep (AddE.keep (AddE.add (AddE.keep AddE.nil))))))))))))))))) (by kernel_rfl)) [[], [], [(18, 0), (19, 1)], [(20, 2)], [(21, 3)], [], [], [(23, 5), (24, 6)], [(25, 7)], [(26, 8)], [], [(22, 4), (27, 9), (28, 10)], [(29, 11)], [(17, 12)], [(17, 12)]] [[], [], [0, 1], [0, 1, 2], [0, 1, 2, 3], [], [], [5, 6], [5, 6, 7], [5, 6, 7, 8], [], [0, 1, 2, 3, 4, 5, 6, 7, 8, 9, 10], [0, 1, 2, 3, 4, 5, 6, 7, 8, 9, 10, 11], [0, 1, 2, 3, 4, 5, 6, 7, 8, 9, 10, 11, 12], [0, 1, 2, 3, 4, 5, 6, 7, 8, 9, 10, 11, 12]] rfl (by kernel_rfl) (by kernel_rfl) (by kernel_rfl) ?_
   repeat (first | refine ⟨_, rfl, ?_⟩ | (apply Gh.move; (refine ⟨_, HStep.q rfl (Qs.move (ah rfl)), ?_⟩; refine ⟨_, rfl, ?_⟩)) | (apply Gh.load; first | (refine ⟨_, HStep.q rfl (Qs.loadEf (ah rfl) (tab_of rfl) rfl rfl), ?_⟩; refine ⟨_, rfl, ?_⟩) | (refine ⟨_, HStep.q rfl (Qs.ldE (ah rfl) (tab_of rfl) rfl rfl), ?_⟩; refine ⟨_, rfl, ?_⟩)) | (apply Gh.fieldAddr; (refine ⟨_, HStep.q rfl (Qs.fldE (ah rfl) (tab_of rfl) rfl (tab_of rfl) rfl rfl), ?_⟩; refine ⟨_, rfl, ?_⟩)) | (apply Gh.indexAddr; (refine ⟨_, HStep.q rfl (Qs.indexN rfl (ah rfl) (tab_of rfl) (tab_of rfl) rfl (by first | omega | (simp; omega))), ?_⟩; refine ⟨_, rfl, ?_⟩)) | (apply Gh.ext; (refine ⟨_, HStep.q rfl (Qs.ext (ah rfl) rfl), ?_⟩; refine ⟨_, rfl, ?_⟩)) | (apply Gh.callv; (refine ⟨_, HStep.q rfl (Qs.call (ah rfl) (RTimes_abs (tAt P k).c (tAt P k).m Q N N' (hP.can.2 _ ht) (hP.sz _ ht) (hm.mono (Int.le_refl _) (by omega)) hQ.sz (hQ.ex.mono (Int.le_refl _) (by omega)) (fun t h => (add8_in hm (hQ.ex t h)).mono (Int.le_refl _) hd) (by omega) (by omega)) (by first | ((repeat (first | exact ArgsLe.nil | refine ArgsLe.cons rfl (D.le.refl _) ?_ | refine ArgsLe.cons rfl D.le_nil ?_)); done) | fail)), ?_⟩; refine ⟨_, rfl, ?_⟩)))
   repeat (first | apply AWp.seq | apply AWp.region | (refine AWs.q rfl rfl ?_; first | (apply Gt.move; refine ⟨_, Qs.move (ao rfl), ?_⟩) | (apply Gt.assign; refine ⟨_, Qs.assign (ao rfl), ?_⟩) | (apply Gt.add; refine ⟨_, Qs.succ (ao rfl) (ao rfl) (by omega), ?_⟩) | (apply Gt.bin; refine ⟨_, Qs.cmpF rfl (ao rfl) (ao rfl) (by first | (simp only [cmpP, List.length_cons, List.length_nil]; omega) | (simp [cmpP]; done) | (simp [cmpP]; omega)), ?_⟩) | (apply Gt.callv; refine ⟨_, Qs.call (ao rfl) (RAdd_pol (mulTo [] (P.take k) Q) (tms (tAt P k).c (tAt P k).m Q) (n * (N + N' + 1)) (N + N') hb.sz ht2.sz (by omega) (by omega)) (by first | ((repeat (first | exact ArgsLe.nil | refine ArgsLe.cons rfl (D.le.refl _) ?_ | refine ArgsLe.cons rfl D.le_nil ?_)); done) | fail), ?_⟩)) | apply OnlyN.mk' | apply AWl.nil | apply AThen.normal | apply AWp.skip | apply ABlock.normal | (apply Gc.cond; refine AWp.condF (ao rfl) ?_))
   refine ALoop.next (P.length - (k + 1)) (by omega) ⟨k + 1, by omega, rfl, rfl⟩ ?_
   exact AS.le_of (by repeat (first | exact FrLe.nil | refine FrLe.cons rfl (AVle.d rfl) ?_ | refine FrLe.cons rfl (AVle.le (D.le_pol (mulTo_take hlt).symm)) ?_)) (by repeat (exact HpLe.nil))
  ·obtain rfl : k = P.length := by omega
   repeat (first | apply AWp.seq | apply AWp.region | (refine AWs.q rfl rfl ?_; first | (apply Gt.move; refine ⟨_, Qs.move (ao rfl), ?_⟩) | (apply Gt.assign; refine ⟨_, Qs.assign (ao rfl), ?_⟩) | (apply Gt.len; refine ⟨_, Qs.lenN rfl (tab_of rfl), ?_⟩) | (apply Gt.bin; refine ⟨_, Qs.cmpF rfl (ao rfl) (ao rfl) (by first | (simp only [cmpP, List.length_cons, List.length_nil]; omega) | (simp [cmpP]; done) | (simp [cmpP]; omega)), ?_⟩)) | apply AWl.nil | apply AThen.normal | apply AWp.exit | apply AWp.ret | apply AThen.exit | apply ABlock.hit | apply ALoop.exit | (apply Gc.cond; refine AWp.condF (ao rfl) ?_))
   exact Fin.ret (Rets.of2 (ResV.tmp rfl rfl) (ResV.tmp rfl rfl) (D.le.tup2 (D.le_pol (by rw [List.take_length]; rfl)) (D.le.refl _)))
theorem RBy_pb {P Q : List Tm} {n N n' N' : Nat} {d d' : Int} (hP : PB P n N d) (hQ : PB Q n' N' d') (h0 : 0 ≤ d) (h0' : 0 ≤ d') (hd : d + d' ≤ 65535) (hn0 : n ≤ 100000) (hn : n * n' + n' ≤ 100000) (hN : n * (N + N' + 1) + N + N' + 1 ≤ 4398046511102) : Abs Tryz.prog 47 [polD P, polD Q] (polD (pmul P Q)) := by
 refine Abs.intro Tryz.func47 rfl (callFunc_run Tryz.func47 (by kernel_rfl) (by kernel_rfl)) rfl fun s0 => ?_
 rw [Tryz.ntmps47]
 repeat (first | apply AWp.seq | apply AWp.region | (refine AWs.q rfl rfl ?_; first | (apply Gt.move; refine ⟨_, Qs.move (ao rfl), ?_⟩) | (apply Gt.assign; refine ⟨_, Qs.assign (ao rfl), ?_⟩) | (apply Gt.ext; refine ⟨_, Qs.ext (ao rfl) rfl, ?_⟩) | (apply Gt.callv; refine ⟨_, Qs.call (ao rfl) (RPMul_pb hP hQ h0 h0' hd hn0 hn hN) (by first | ((repeat (first | exact ArgsLe.nil | refine ArgsLe.cons rfl (D.le.refl _) ?_ | refine ArgsLe.cons rfl D.le_nil ?_)); done) | fail), ?_⟩)) | apply AWl.nil | apply AThen.normal | apply AWp.ret)
 exact Fin.ret (Rets.of1 (ResV.tmp rfl rfl) (D.le.refl _))
theorem Abs.le {P : Program} {f : FuncId} {ds : List D} {r r' : D} (h : Abs P f ds r) (hr : D.le r r') : Abs P f ds r' :=
 ⟨h.1, fun s vs h1 h2 h3 => (h.2 s vs h1 h2 h3).mono fun e w' ⟨v, he, s', hw, hl, hv⟩ => ⟨v, he, s', hw, hl, hr _ _ hv⟩⟩
theorem PMul_pb {P Q : List Tm} {n N n' N' : Nat} {d d' : Int} (hP : PB P n N d) (hQ : PB Q n' N' d') (h0 : 0 ≤ d) (h0' : 0 ≤ d') (hd : d + d' ≤ 65535) (hn : n * n' ≤ 100000) (hN : N + N' + 1 ≤ 10000000) : Abs Tryz.prog 18 [polD P, polD Q] (tupD [polD (pmul P Q), ex (.int .i64 0)]) :=
 (PMul_abs P Q N N' hP.sz hQ.sz d d' hP.ex hQ.ex hd h0 h0' (Nat.le_trans (Nat.mul_le_mul hP.len hQ.len) hn) hN).le fun s v hv => by
  obtain ⟨S, ⟨h1, h2, _⟩, h3⟩ := hv
  have h3 : (tupD [polD S, ex (.int .i64 0)]).rel s v := h3
  rwa [polD_sim h1 (hP.mul hQ h0 h0').can (h2.trans (pmul_sim P Q).symm)] at h3
theorem PAdd_pb {P Q : List Tm} {n N n' N' : Nat} {d d' : Int} (hP : PB P n N d) (hQ : PB Q n' N' d') (hn : n + n' ≤ 100000) (hN : N + N' + 1 ≤ 4398046511104) : Abs Tryz.prog 20 [polD P, polD Q] (polD (mrg P Q)) :=
 PAdd_abs P Q N N' hP.sz hQ.sz hN (Nat.le_trans (Nat.add_le_add hP.len hQ.len) hn)
theorem PSub_pb {P Q : List Tm} {n N n' N' : Nat} {d d' : Int} (hP : PB P n N d) (hQ : PB Q n' N' d') (hn : n + n' ≤ 100000) (hN : N + N' + 1 ≤ 4398046511104) : Abs Tryz.prog 21 [polD P, polD Q] (polD (psub P Q)) :=
 PSub_abs P Q N N' hP.sz hQ.sz hN (Nat.le_trans (Nat.add_le_add hP.len hQ.len) hn)
theorem scl_one_neg {Q : List Tm} (hQ : Canon Q) : SameL (sclL (-1 : Int) Q) (neg Q) := by
 rw [sclL, if_neg (by decide)]
 induction Q with
 | nil => trivial
 | cons t Q ih =>
  refine ⟨?_, fun i _ => ?_, ih ⟨(List.pairwise_cons.1 hQ.1).2, fun u hu => hQ.2 u (by simp [hu])⟩⟩
  ·show ((-1 : Int) : Rat) * t.c = -t.c
   have : ((-1 : Int) : Rat) = -1 := rfl
   rw [this]; grind
  ·show 0 + t.m i = t.m i
   omega
theorem RSub_pb {P Q : List Tm} {n N n' N' : Nat} {d d' : Int} (hP : PB P n N d) (hQ : PB Q n' N' d') (hd : d' ≤ 65535) (hn : n + n' ≤ 100000) (hN : N + N' + 2 ≤ 4398046511103) : Abs Tryz.prog 57 [polD P, polD Q] (polD (psub P Q)) := by
 have hs := scl_one_neg hQ.can
 have hc := (hQ.neg.same hs.symm).can
 exact (RSub_abs P Q N N' hP.sz hQ.sz (hQ.ex.mono (Int.le_refl _) hd) hN (Nat.le_trans (Nat.add_le_add hP.len hQ.len) hn)).le (D.le.of_eq (polD_sim (mrg_canon hP.can hc) (mrg_canon hP.can hQ.neg.can) ((mrg_sim _ _).trans (((Sim.refl P).append hs.sim).trans (mrg_sim _ _).symm))))
theorem RSame_true {P Q : List Tm} (h : SameL P Q) : Abs Tryz.prog 19 [polD P, polD Q] (ex (.bool true)) := by
 have := RSame_abs P Q
 rwa [sameB_true.2 h] at this
theorem RSame_sim {P Q : List Tm} (hP : Canon P) (hQ : Canon Q) (h : Sim P Q) : Abs Tryz.prog 19 [polD P, polD Q] (ex (.bool true)) := RSame_true (canon_unique hP hQ h)
theorem PValid_pb {P : List Tm} {n N : Nat} {d : Int} (h : PB P n N d) (hd : d ≤ 65535) (hN : N ≤ 1000000000) (hn : n ≤ 1000000) : Abs Tryz.prog 14 [polD P] (ex (.bool true)) := PValidP_abs P N h.can (h.ex.mono (Int.le_refl _) hd) h.sz hN (Nat.le_trans h.len hn)
end Go.Proofs.YteicdddphdomkaaGreat
namespace Go.Proofs.YteicdddphdomkaaGreat
open Go.RowKit
set_option maxRecDepth 100000
theorem Rabs_abs (z : Int) (h0 : -128 ≤ z) (h1 : z ≤ 127) : Abs Tryz.prog 103 [ex (.int .i8 z)] (ex (.int .i64 (z.natAbs : Nat))) := by
 by_cases hz : z < 0
 ·refine Abs.intro Tryz.func103 rfl (callFunc_run Tryz.func103 (by kernel_rfl) (by kernel_rfl)) rfl fun s0 => ?_
  rw [Tryz.ntmps103]
  repeat (first | refine AWs.q rfl rfl ?_; refine ⟨_, Qs.conv64 (ao rfl) (tab_of rfl) (tab_of rfl) (by omega) (by omega), ?_⟩ | refine AWs.q rfl rfl ?_; refine ⟨_, Qs.neg (ao rfl) (by omega) (by omega), ?_⟩ | apply AWp.seq | apply AWp.region | (refine AWs.q rfl rfl ?_; first | (apply Gt.move; refine ⟨_, Qs.move (ao rfl), ?_⟩) | (apply Gt.assign; refine ⟨_, Qs.assign (ao rfl), ?_⟩) | (apply Gt.bin; refine ⟨_, Qs.cmpT rfl (ao rfl) (ao rfl) (by first | (simp only [cmpP, List.length_cons, List.length_nil]; omega) | (simp [cmpP]; done) | (simp [cmpP]; omega)), ?_⟩)) | apply AWl.nil | apply AThen.normal | apply AWp.ret | apply AThen.ret | (apply Gc.cond; refine AWp.condT (ao rfl) ?_))
  exact Fin.ret (Rets.of1 (ResV.tmp rfl rfl) (D.le.of_eq (by congr 2; omega)))
 ·refine Abs.intro Tryz.func103 rfl (callFunc_run Tryz.func103 (by kernel_rfl) (by kernel_rfl)) rfl fun s0 => ?_
  rw [Tryz.ntmps103]
  repeat (first | refine AWs.q rfl rfl ?_; refine ⟨_, Qs.conv64 (ao rfl) (tab_of rfl) (tab_of rfl) (by omega) (by omega), ?_⟩ | apply AWp.seq | apply AWp.region | (refine AWs.q rfl rfl ?_; first | (apply Gt.move; refine ⟨_, Qs.move (ao rfl), ?_⟩) | (apply Gt.assign; refine ⟨_, Qs.assign (ao rfl), ?_⟩) | (apply Gt.bin; refine ⟨_, Qs.cmpF rfl (ao rfl) (ao rfl) (by first | (simp only [cmpP, List.length_cons, List.length_nil]; omega) | (simp [cmpP]; done) | (simp [cmpP]; omega)), ?_⟩)) | apply AWl.nil | apply AThen.normal | apply AWp.skip | apply AWp.ret | (apply Gc.cond; refine AWp.condF (ao rfl) ?_))
  exact Fin.ret (Rets.of1 (ResV.tmp rfl rfl) (D.le.of_eq (by congr 2; omega)))
def lft (deg : Int) (r : Nat → Int) : Nat → Int
 | 0 => deg
 | j + 1 => lft deg r j - ((r (j + 1)).natAbs : Nat) % (lft deg r j + 1)
theorem lft_in {deg : Int} (r : Nat → Int) (h : 0 ≤ deg) : ∀ j, 0 ≤ lft deg r j ∧ lft deg r j ≤ deg
 | 0 => ⟨h, Int.le_refl _⟩
 | j + 1 => by
  have ih := lft_in r h j
  have h1 := Int.emod_nonneg ((r (j + 1)).natAbs : Int) (show lft deg r j + 1 ≠ 0 by omega)
  have h2 := Int.emod_lt_of_pos ((r (j + 1)).natAbs : Int) (show 0 < lft deg r j + 1 by omega)
  simp only [lft]
  omega
def expE (deg : Int) (r : Nat → Int) (n : Nat) : Nat → Int := fun j => if j < n then ((r (j + 1)).natAbs : Nat) % (lft deg r j + 1) else 0
theorem expE_in {deg : Int} (r : Nat → Int) (h : 0 ≤ deg) (n : Nat) : In8 (expE deg r n) 0 deg := fun j _ => by
 unfold expE
 have ih := lft_in r h j
 split
 ·have h1 := Int.emod_nonneg ((r (j + 1)).natAbs : Int) (show lft deg r j + 1 ≠ 0 by omega)
  have h2 := Int.emod_lt_of_pos ((r (j + 1)).natAbs : Int) (show 0 < lft deg r j + 1 by omega)
  omega
 ·omega
theorem expE_set (deg : Int) (r : Nat → Int) (k : Nat) : setM (expE deg r k) k (((r (k + 1)).natAbs : Nat) % (lft deg r k + 1)) = expE deg r (k + 1) := by
 funext j
 simp only [setM, expE]
 rcases Nat.lt_trichotomy j k with h | h | h
 ·rw [if_neg (by omega), if_pos h, if_pos (by omega)]
 ·subst h; simp
 ·rw [if_neg (by omega), if_neg (by omega), if_neg (by omega)]
def rawT (deg : Int) (n : Nat) (r : Nat → Int) : List Tm := sclL ((Int.tmod (r 0) 4 : Int) : Rat) [⟨1, expE deg r n⟩]
def madeTo (deg : Int) (n : Nat) (X : List (Nat → Int)) : List Tm := X.foldl (fun a r => mrg a (rawT deg n r)) []
def madeP (X : List (Nat → Int)) (n : Nat) (deg : Int) (terms : Nat) : List Tm := madeTo deg (min n 4) (X.take (min X.length terms))
theorem tmod4 (z : Int) : -3 ≤ Int.tmod z 4 ∧ Int.tmod z 4 ≤ 3 := by
 rcases Int.le_total 0 z with h | h
 ·rw [Int.tmod_eq_emod_of_nonneg h]; omega
 ·have : Int.tmod z 4 = -((-z) % 4) := by
   rw [← Int.tmod_eq_emod_of_nonneg (by omega), Int.neg_tmod, Int.neg_neg]
  omega
theorem sclL_pb {c : Rat} {P : List Tm} {n N N0 : Nat} {d : Int} (h : PB P n N d) (hs : RSz c N0) : PB (sclL c P) n (N0 + N) d := by
 unfold sclL
 split
 ·exact PB.nil
 ·rename_i hc
  have := tms_pb (t := ⟨c, fun _ => 0⟩) (d0 := 0) h hc hs fun i _ => ⟨Int.le_refl _, Int.le_refl _⟩
  rwa [Int.zero_add] at this
theorem one_pb {m : Nat → Int} {d : Int} (h : In8 m 0 d) : PB [⟨1, m⟩] 1 1 d := PB.single (show (1 : Rat) ≠ 0 by decide) (rsz_one) h
where rsz_one : RSz (1 : Rat) 1 := rsz_sm (x := 1) (by omega) (by omega)
theorem tmod_sz (z : Int) : RSz ((Int.tmod z 4 : Int) : Rat) 1 := by
 have := tmod4 z
 exact rsz_sm (by omega) (by omega)
theorem rawT_pb {deg : Int} (n : Nat) (r : Nat → Int) (h : 0 ≤ deg) : PB (rawT deg n r) 1 2 deg := sclL_pb (one_pb (expE_in r h n)) (tmod_sz _)
theorem madeTo_pb {deg : Int} {n : Nat} (h : 0 ≤ deg) : ∀ (X : List (Nat → Int)) (A : List Tm) (k K : Nat), PB A k K deg → PB (X.foldl (fun a r => mrg a (rawT deg n r)) A) (k + X.length) (K + X.length * 3) deg
 | [], A, k, K, h => h
 | r :: X, A, k, K, hA => by
  have h1 := (hA.add (rawT_pb n r h)).mono (Nat.le_refl _) (Nat.le_refl _) (Int.max_le.2 ⟨Int.le_refl _, Int.le_refl _⟩)
  have := madeTo_pb (n := n) h X _ _ _ h1
  exact this.mono (by simp; omega) (by simp; omega) (Int.le_refl _)
theorem madeP_pb (X : List (Nat → Int)) (n : Nat) {deg : Int} (terms : Nat) (h : 0 ≤ deg) : PB (madeP X n deg terms) terms (terms * 3) deg := by
 have := madeTo_pb (n := min n 4) h (X.take (min X.length terms)) [] 0 0 PB.nil
 have hl : (X.take (min X.length terms)).length ≤ terms := by rw [List.length_take]; omega
 exact this.mono (by omega) (by omega) (Int.le_refl _)
theorem madeTo_take_pb (X : List (Nat → Int)) (n : Nat) {deg : Int} {terms k : Nat} (h : 0 ≤ deg) (hk : k ≤ terms) : PB (madeTo deg n (X.take k)) terms (terms * 3) deg := by
 have := madeTo_pb (n := n) h (X.take k) [] 0 0 PB.nil
 have hl : (X.take k).length ≤ terms := by rw [List.length_take]; omega
 exact this.mono (by omega) (by omega) (Int.le_refl _)
theorem foldl_i5 {α : Type} (f : α → (Nat → Int) → α) (b : α) {X : List (Nat → Int)} {k : Nat} (h : k < X.length) : (X.take (k + 1)).foldl f b = f ((X.take k).foldl f b) (i5At X k) := by
 have e : X.take (k + 1) = X.take k ++ [i5At X k] := by
  rw [List.take_add_one, List.getElem?_eq_getElem h, i5At, List.getD_eq_getElem?_getD, List.getElem?_eq_getElem h]
  rfl
 rw [e, List.foldl_append]
 rfl
def Raw8 (X : List (Nat → Int)) : Prop := ∀ r ∈ X, ∀ j, j < 5 → -128 ≤ r j ∧ r j ≤ 127
theorem RMade_abs (T : Nat) (X : List (Nat → Int)) (n terms : Nat) (deg : Int) (hX : Raw8 X) (hn : n ≤ 8) (ht : terms ≤ 1000) (h0 : 0 ≤ deg) (hd : deg ≤ 1000) : Abs Tryz.prog 41 [agD [r5D T X], ex (.int .i64 (n : Nat)), ex (.int .i64 deg), ex (.int .i64 (terms : Nat))] (polD (madeP X n deg terms)) := by
 refine Abs.intro Tryz.func41 rfl (callFunc_run Tryz.func41 (by kernel_rfl) (by kernel_rfl)) rfl fun s0 => ?_
 rw [Tryz.ntmps41]
 repeat (first | apply AWp.seq | apply AWp.region | (apply Ga.box; refine AWs.bx (ao rfl) rfl rfl rfl rfl ?_) | (apply Ga.b0; refine AWs.b0 (tab_of rfl) (tab_of rfl) rfl rfl rfl rfl rfl ?_) | (refine AWs.q rfl rfl ?_; (apply Gt.assign; refine ⟨_, Qs.assign (ao rfl), ?_⟩)) | apply AWl.nil | apply AThen.normal | apply AWp.block)
 refine AWp.loop (fun mz σ => ∃ k, k ≤ min X.length terms ∧ mz = min X.length terms - k ∧ σ = ⟨[(1, .d (ex (.int .i64 (n : Nat)))), (2, .d (ex (.int .i64 deg))), (3, .d (ex (.int .i64 (terms : Nat)))), (4, .ptr 0 0), (9, .d (polD (madeTo deg (min n 4) (X.take k)))), (10, .d (ex (.int .i64 (k : Nat))))], [.var 37 ([r5D T X].map .d)]⟩) ?le ⟨0, by omega, rfl, rfl⟩ ?round
 case le => exact AS.le_of (by repeat (first | exact FrLe.nil | refine FrLe.cons rfl (AVle.d rfl) ?_ | refine FrLe.cons rfl (AVle.ptr rfl) ?_ | refine FrLe.cons rfl (AVle.ownD rfl (D.le.refl _)) ?_)) (by repeat (first | exact HpLe.nil | refine HpLe.cons (OwLe.varD rfl) ?_))
 case round =>
  rintro mz _ ⟨k, hk, rfl, rfl⟩
  by_cases hlt : k < min X.length terms
  ·have hkX : k < X.length := by omega
   have hkt : k < terms := by omega
   repeat (first | apply AWp.seq | apply AWp.region | (apply Ga.alloc; refine AWs.al (tab_of rfl) rfl rfl rfl rfl rfl rfl ?_) | (apply Ga.store; refine AWs.stF (ao rfl) (ao rfl) rfl (tab_of rfl) rfl rfl rfl ?_) | (refine AWs.q rfl rfl ?_; first | (apply Gt.move; refine ⟨_, Qs.move (ao rfl), ?_⟩) | (apply Gt.assign; refine ⟨_, Qs.assign (ao rfl), ?_⟩) | (apply Gt.load; refine ⟨_, Qs.ldD1 (ao rfl) rfl (tab_of rfl) rfl rfl, ?_⟩) | (apply Gt.fieldAddr; refine ⟨_, Qs.fldP (ao rfl) (tab_of rfl) rfl (tab_of rfl) rfl, ?_⟩) | (apply Gt.len; refine ⟨_, Qs.lenN rfl (tab_of rfl), ?_⟩) | (apply Gt.bin; refine ⟨_, Qs.cmpT rfl (ao rfl) (ao rfl) (by first | (simp only [cmpP, List.length_cons, List.length_nil]; omega) | (simp [cmpP]; done) | (simp [cmpP]; omega)), ?_⟩) | (apply Gt.pick; refine ⟨_, Qs.pickT (ao rfl) (ao rfl), ?_⟩) | (apply Gt.build; (refine Bq.arr (tab_of rfl) (tab_of rfl) rfl rfl ?_; (repeat ((first | refine ⟨_, PartOk.ag (ao rfl), ?_⟩ | refine ⟨_, PartOk.one rfl (by first | exact One.ex_ rfl | exact One.sl | exact One.ep), ?_⟩); refine ⟨_, rfl, ?_⟩)); refine ⟨_, rfl, ?_⟩))) | (refine AWs.qG rfl rfl rfl rfl rfl ?_; first | (apply Gt.move; refine ⟨_, Qs.move (ao rfl), ?_⟩) | (apply Gt.bin; refine ⟨_, Qs.cmpT rfl (ao rfl) (ao rfl) (by first | (simp only [cmpP, List.length_cons, List.length_nil]; omega) | (simp [cmpP]; done) | (simp [cmpP]; omega)), ?_⟩)) | apply AWl.nil | apply AThen.normal | apply AWp.block | apply AWp.skip | (apply Gc.cond; refine AWp.condT (ao rfl) ?_))
   refine AWp.loop (fun mz σ => ∃ i, i ≤ min n 4 ∧ mz = min n 4 - i ∧ σ = ⟨[(1, .d (ex (.int .i64 (n : Nat)))), (2, .d (ex (.int .i64 deg))), (3, .d (ex (.int .i64 (terms : Nat)))), (4, .ptr 0 0), (9, .d (polD (madeTo deg (min n 4) (X.take k)))), (10, .d (ex (.int .i64 (k : Nat)))), (11, .ptr 1 0), (12, .d (ex (.int .i64 (lft deg (i5At X k) i)))), (13, .d (ex (.int .i64 (i : Nat))))], [.var 37 ([r5D T X].map .d), .var 31 ((monC (expE deg (i5At X k) i)).map .d)]⟩) ?lei ⟨0, by omega, rfl, rfl⟩ ?roundi
   case lei => exact AS.le_of (by repeat (first | exact FrLe.nil | refine FrLe.cons rfl (AVle.d rfl) ?_ | refine FrLe.cons rfl (AVle.ptr rfl) ?_)) (by repeat (first | exact HpLe.nil | refine HpLe.cons (OwLe.varD rfl) ?_))
   case roundi =>
    rintro mz _ ⟨i, hi, rfl, rfl⟩
    by_cases hlti : i < min n 4
    ·have hl := lft_in (i5At X k) h0 i
     have hr := hX _ (i5At_mem hkX) (i + 1) (by omega)
     have hs : setM (expE deg (i5At X k) i) i (((i5At X k (i + 1)).natAbs : Nat) % (lft deg (i5At X k) i + 1)) i = ((i5At X k (i + 1)).natAbs : Nat) % (lft deg (i5At X k) i + 1) := if_pos rfl
     have he1 := Int.emod_nonneg ((i5At X k (i + 1)).natAbs : Int) (show lft deg (i5At X k) i + 1 ≠ 0 by omega)
     have he2 := Int.emod_lt_of_pos ((i5At X k (i + 1)).natAbs : Int) (show 0 < lft deg (i5At X k) i + 1 by omega)
     repeat (first | refine AWs.q rfl rfl ?_; refine ⟨_, Qs.succL (ao rfl) (ao rfl) (by omega), ?_⟩ | refine AWs.q rfl rfl ?_; refine ⟨_, Qs.ldEX1 (ao rfl) (tab_of rfl) rfl (CellAt.r5 (show i + 1 < 5 by omega)), ?_⟩ | apply AWp.seq | apply AWp.region | (apply Ga.store; refine AWs.stX1 (ao rfl) (ao rfl) rfl (tab_of rfl) (by first | exact One.ex_ rfl | exact One.sl | exact One.ep) (SetAt.mon (by first | omega | (simp; omega))) rfl ?_) | (refine AWs.q rfl rfl ?_; first | (apply Gt.move; refine ⟨_, Qs.move (ao rfl), ?_⟩) | (apply Gt.assign; refine ⟨_, Qs.assign (ao rfl), ?_⟩) | (apply Gt.load; first | refine ⟨_, Qs.ldD1 (ao rfl) rfl (tab_of rfl) rfl rfl, ?_⟩ | refine ⟨_, Qs.ldX1 (ao rfl) rfl (tab_of rfl) rfl (CellAt.mon0 (by first | omega | (simp; omega))), ?_⟩) | (apply Gt.fieldAddr; refine ⟨_, Qs.fldP (ao rfl) (tab_of rfl) rfl (tab_of rfl) rfl, ?_⟩) | (apply Gt.indexAddr; first | refine ⟨_, Qs.indexN rfl (ao rfl) (tab_of rfl) (tab_of rfl) rfl (by first | omega | (simp; omega)), ?_⟩ | refine ⟨_, Qs.ixP (ao rfl) (ao rfl) (tab_of rfl) (tab_of rfl) (by first | omega | (simp; omega)), ?_⟩ | refine ⟨_, Qs.ixE (ao rfl) (ao rfl) (tab_of rfl) (tab_of rfl) (by first | omega | (simp; omega)), ?_⟩) | (apply Gt.add; first | refine ⟨_, Qs.succ (ao rfl) (ao rfl) (by omega), ?_⟩ | refine ⟨_, Qs.add (ao rfl) (ao rfl) (by omega) (by omega), ?_⟩) | (apply Gt.sub; refine ⟨_, Qs.sub (ao rfl) (ao rfl) (by omega) (by omega), ?_⟩) | (apply Gt.rem; refine ⟨_, Qs.rem (ao rfl) (ao rfl) (by omega) (by omega), ?_⟩) | (apply Gt.bin; refine ⟨_, Qs.cmpT rfl (ao rfl) (ao rfl) (by first | (simp only [cmpP, List.length_cons, List.length_nil]; omega) | (simp [cmpP]; done) | (simp [cmpP]; omega)), ?_⟩) | (apply Gt.pick; refine ⟨_, Qs.pickT (ao rfl) (ao rfl), ?_⟩) | (apply Gt.callv; refine ⟨_, Qs.call (ao rfl) (Rabs_abs (i5At X k (i + 1)) hr.1 hr.2) (by first | ((repeat (first | exact ArgsLe.nil | refine ArgsLe.cons rfl (D.le.refl _) ?_ | refine ArgsLe.cons rfl D.le_nil ?_)); done) | fail), ?_⟩)) | (refine AWs.qG rfl rfl rfl rfl rfl ?_; first | (apply Gt.move; refine ⟨_, Qs.move (ao rfl), ?_⟩) | (apply Gt.bin; refine ⟨_, Qs.cmpT rfl (ao rfl) (ao rfl) (by first | (simp only [cmpP, List.length_cons, List.length_nil]; omega) | (simp [cmpP]; done) | (simp [cmpP]; omega)), ?_⟩)) | apply AWl.nil | apply AThen.normal | apply AWp.block | apply AWp.skip | apply ABlock.normal | (apply Gc.cond; refine AWp.condT (ao rfl) ?_))
     refine ALoop.next (min n 4 - (i + 1)) (by omega) ⟨i + 1, by omega, rfl, rfl⟩ ?_
     exact AS.le_of (by repeat (first | exact FrLe.nil | refine FrLe.cons rfl (AVle.d rfl) ?_ | refine FrLe.cons rfl (AVle.ptr rfl) ?_ | refine FrLe.cons rfl (AVle.int (by rw [hs]; rfl)) ?_)) (by repeat (first | exact HpLe.nil | refine HpLe.cons (OwLe.varD (by rw [expE_set])) ?_ | refine HpLe.cons (OwLe.varD rfl) ?_))
    ·obtain rfl : i = min n 4 := by omega
     have hrm := i5At_mem hkX
     have hr0 := hX _ hrm 0 (by omega)
     have h4 := tmod4 (i5At X k 0)
     have h4' : -3 ≤ Int.tmod (X.getD k default 0) 4 ∧ Int.tmod (X.getD k default 0) 4 ≤ 3 := h4
     have hb := madeTo_take_pb X (min n 4) (terms := terms) h0 (Nat.le_of_lt hkt)
     have hbl := hb.len
     have ht := rawT_pb (min n 4) (i5At X k) h0
     have htl := ht.len
     have h1 := one_pb (expE_in (i5At X k) h0 (min n 4))
     have hz : (i5At X k 0).tmod 4 = IntKind.i64.wrap ((i5At X k 0).tmod 4) := (IntWalk.i64_in _ (by omega)).symm
     have hst : madeTo deg (min n 4) (X.take (k + 1)) = mrg (madeTo deg (min n 4) (X.take k)) (rawT deg (min n 4) (i5At X k)) := foldl_i5 (fun a r => mrg a (rawT deg (min n 4) r)) [] hkX
     rcases (show n ≤ 4 ∨ 4 < n by omega) with hn4 | hn4
     all_goals
      repeat (first | apply AWp.seq | apply AWp.region | (refine AWs.q rfl rfl ?_; first | (apply Gt.move; refine ⟨_, Qs.move (ao rfl), ?_⟩) | (apply Gt.bin; first | refine ⟨_, Qs.cmpT rfl (ao rfl) (ao rfl) (by first | (simp only [cmpP, List.length_cons, List.length_nil]; omega) | (simp [cmpP]; done) | (simp [cmpP]; omega)), ?_⟩ | refine ⟨_, Qs.cmpF rfl (ao rfl) (ao rfl) (by first | (simp only [cmpP, List.length_cons, List.length_nil]; omega) | (simp [cmpP]; done) | (simp [cmpP]; omega)), ?_⟩) | (apply Gt.pick; first | refine ⟨_, Qs.pickT (ao rfl) (ao rfl), ?_⟩ | refine ⟨_, Qs.pickF (ao rfl) (ao rfl), ?_⟩)) | refine AWs.sG rfl rfl rfl rfl rfl ?_ | (refine AWs.qG rfl rfl rfl rfl rfl ?_; first | (apply Gt.move; refine ⟨_, Qs.move (ao rfl), ?_⟩) | (apply Gt.bin; refine ⟨_, Qs.cmpF rfl (ao rfl) (ao rfl) (by first | (simp only [cmpP, List.length_cons, List.length_nil]; omega) | (simp [cmpP]; done) | (simp [cmpP]; omega)), ?_⟩)) | apply AWl.nil | apply AThen.normal | apply AWp.exit | apply AThen.exit | apply ABlock.hit | apply ALoop.exit | (apply Gc.cond; refine AWp.condF (ao rfl) ?_))
      refine AWp.dr' (DrawOk.self (by kernel_rfl)) [[], [], [(58, 1)], [], [(59, 2), (60, 3)], [(61, 4)], [(62, 5)], [(63, 6)], [(64, 7)], [(65, 8)], [], [], [(67, 10), (68, 11)], [(69, 12)], [(66, 9), (70, 13)], [(57, 0), (71, 14)]] [[], [], [1], [], [1, 2, 3], [1, 2, 3, 4], [1, 2, 3, 4, 5], [1, 2, 3, 4, 5, 6], [1, 2, 3, 4, 5, 6, 7], [1, 2, 3, 4, 5, 6, 7, 8], [1, 2, 3, 4, 5, 6, 7, 8, 9], [], [1, 2, 3, 4, 5, 6, 7, 8, 9, 10, 11], [1, 2, 3, 4, 5, 6, 7, 8, 9, 10, 11, 12], [1, 2, 3, 4, 5, 6, 7, 8, 9, 10, 11, 12, 13], [0, 1, 2, 3, 4, 5, 6, 7, 8, 9, 10, 11, 12, 13, 14]] rfl (by kernel_rfl) (by kernel_rfl) (by kernel_rfl) ?_
      repeat (first | refine ⟨_, rfl, ?_⟩ | (apply Gh.move; (refine ⟨_, HStep.q rfl (Qs.move (ah rfl)), ?_⟩; refine ⟨_, rfl, ?_⟩)) | (apply Gh.load; first | (refine ⟨_, HStep.q rfl (Qs.ldD (ah rfl) rfl (tab_of rfl) rfl rfl), ?_⟩; refine ⟨_, rfl, ?_⟩) | (refine ⟨_, HStep.q rfl (Qs.ldD1 (ah rfl) rfl (tab_of rfl) rfl rfl), ?_⟩; refine ⟨_, rfl, ?_⟩) | (refine ⟨_, HStep.q rfl (Qs.ldE1 (ah rfl) (tab_of rfl) rfl rfl), ?_⟩; refine ⟨_, rfl, ?_⟩)) | (apply Gh.fieldAddr; (refine ⟨_, HStep.q rfl (Qs.fldP (ah rfl) (tab_of rfl) rfl (tab_of rfl) rfl), ?_⟩; refine ⟨_, rfl, ?_⟩)) | (apply Gh.indexAddr; first | (refine ⟨_, HStep.q rfl (Qs.indexN rfl (ah rfl) (tab_of rfl) (tab_of rfl) rfl (by first | omega | (simp; omega))), ?_⟩; refine ⟨_, rfl, ?_⟩) | (refine ⟨_, HStep.q rfl (Qs.ixL (ah rfl) (ah rfl) (tab_of rfl) (tab_of rfl) (by decide) (by decide) rfl), ?_⟩; refine ⟨_, rfl, ?_⟩)) | (apply Gh.rem; (refine ⟨_, HStep.q rfl (Qs.remT (ah rfl) (ah rfl) (by decide)), ?_⟩; refine ⟨_, rfl, ?_⟩)) | (apply Gh.bslice; (refine ⟨_, HStep.q rfl (Bq.slice1 (ah rfl) (tab_of rfl) (tab_of rfl) rfl rfl rfl rfl rfl), ?_⟩; refine ⟨_, rfl, ?_⟩)) | (apply Gh.conv; (refine ⟨_, HStep.q rfl (Qs.conv64 (ah rfl) (tab_of rfl) (tab_of rfl) (by omega) (by omega)), ?_⟩; refine ⟨_, rfl, ?_⟩)) | (apply Gh.build; (refine Hq rfl ?_; refine Bq.build (tab_of rfl) rfl rfl rfl ?_; (repeat ((first | refine ⟨_, PartOk.ag (ah rfl), ?_⟩ | refine ⟨_, PartOk.one rfl (by first | exact One.ex_ rfl | exact One.sl | exact One.ep), ?_⟩); refine ⟨_, rfl, ?_⟩)); refine ⟨_, rfl, ?_⟩; refine ⟨_, rfl, ?_⟩)) | (apply Gh.callv; first | (refine ⟨_, HStep.q rfl (Qs.call (ah rfl) (RWhole_abs ((i5At X k 0).tmod 4) (by omega) (by omega)) (by first | ((repeat (first | exact ArgsLe.nil | refine ArgsLe.cons rfl (D.le.refl _) ?_ | refine ArgsLe.cons rfl D.le_nil ?_)); done) | fail)), ?_⟩; refine ⟨_, rfl, ?_⟩) | (refine ⟨_, HStep.q rfl (Qs.call (ah rfl) (RWhole_abs 1 (by omega) (by omega)) (by first | ((repeat (first | exact ArgsLe.nil | refine ArgsLe.cons rfl (D.le.refl _) ?_ | refine ArgsLe.cons rfl D.le_nil ?_)); done) | fail)), ?_⟩; refine ⟨_, rfl, ?_⟩) | (refine ⟨_, HStep.q rfl (Qs.call (ah rfl) (RScale_abs ((Int.tmod (i5At X k 0) 4 : Int) : Rat) [⟨1, expE deg (i5At X k) (min n 4)⟩] 1 1 (tmod_sz _) h1.sz (h1.ex.mono (Int.le_refl _) (by omega)) (by simp) (by omega)) (by first | ((repeat (first | exact ArgsLe.nil | refine ArgsLe.cons rfl (D.le.refl _) ?_ | refine ArgsLe.cons rfl D.le_nil ?_)); done) | fail)), ?_⟩; refine ⟨_, rfl, ?_⟩) | (refine ⟨_, HStep.q rfl (Qs.call (ah rfl) (RAdd_pol (madeTo deg (min n 4) (X.take k)) (rawT deg (min n 4) (i5At X k)) (terms * 3) 2 hb.sz ht.sz (by omega) (by omega)) (by first | ((repeat (first | exact ArgsLe.nil | refine ArgsLe.cons rfl (D.le.refl _) ?_ | refine ArgsLe.cons rfl D.le_nil ?_)); done) | fail)), ?_⟩; refine ⟨_, rfl, ?_⟩)))
      repeat (first | apply AWp.region | (refine AWs.q rfl rfl ?_; first | (apply Gt.move; refine ⟨_, Qs.move (ao rfl), ?_⟩) | (apply Gt.assign; refine ⟨_, Qs.assign (ao rfl), ?_⟩) | (apply Gt.add; refine ⟨_, Qs.succ (ao rfl) (ao rfl) (by omega), ?_⟩)) | apply AWl.nil | apply AThen.normal | apply ABlock.normal)
      refine ALoop.next (min X.length terms - (k + 1)) (by omega) ⟨k + 1, by omega, rfl, rfl⟩ ?_
      exact AS.le_of (by repeat (first | exact FrLe.nil | refine FrLe.cons rfl (AVle.d rfl) ?_ | refine FrLe.cons rfl (AVle.ptr rfl) ?_ | refine FrLe.cons rfl (AVle.le (D.le_pol hst.symm)) ?_)) (by repeat (first | exact HpLe.nil | refine HpLe.cons (OwLe.varD rfl) ?_))
  ·obtain rfl : k = min X.length terms := by omega
   rcases (show X.length ≤ terms ∨ terms < X.length by omega) with ht | ht
   all_goals
    repeat (first | apply AWp.seq | apply AWp.region | (refine AWs.q rfl rfl ?_; first | (apply Gt.move; refine ⟨_, Qs.move (ao rfl), ?_⟩) | (apply Gt.assign; refine ⟨_, Qs.assign (ao rfl), ?_⟩) | (apply Gt.load; refine ⟨_, Qs.ldD1 (ao rfl) rfl (tab_of rfl) rfl rfl, ?_⟩) | (apply Gt.fieldAddr; refine ⟨_, Qs.fldP (ao rfl) (tab_of rfl) rfl (tab_of rfl) rfl, ?_⟩) | (apply Gt.len; refine ⟨_, Qs.lenN rfl (tab_of rfl), ?_⟩) | (apply Gt.bin; first | refine ⟨_, Qs.cmpT rfl (ao rfl) (ao rfl) (by first | (simp only [cmpP, List.length_cons, List.length_nil]; omega) | (simp [cmpP]; done) | (simp [cmpP]; omega)), ?_⟩ | refine ⟨_, Qs.cmpF rfl (ao rfl) (ao rfl) (by first | (simp only [cmpP, List.length_cons, List.length_nil]; omega) | (simp [cmpP]; done) | (simp [cmpP]; omega)), ?_⟩) | (apply Gt.pick; first | refine ⟨_, Qs.pickT (ao rfl) (ao rfl), ?_⟩ | refine ⟨_, Qs.pickF (ao rfl) (ao rfl), ?_⟩)) | refine AWs.sG rfl rfl rfl rfl rfl ?_ | (refine AWs.qG rfl rfl rfl rfl rfl ?_; first | (apply Gt.move; refine ⟨_, Qs.move (ao rfl), ?_⟩) | (apply Gt.bin; refine ⟨_, Qs.cmpF rfl (ao rfl) (ao rfl) (by first | (simp only [cmpP, List.length_cons, List.length_nil]; omega) | (simp [cmpP]; done) | (simp [cmpP]; omega)), ?_⟩)) | apply AWl.nil | apply AThen.normal | apply AWp.exit | apply AWp.ret | apply AThen.exit | apply ABlock.hit | apply ALoop.exit | (apply Gc.cond; refine AWp.condF (ao rfl) ?_))
    exact Fin.ret (Rets.of1 (ResV.tmp rfl rfl) (D.le.refl _))
end Go.Proofs.YteicdddphdomkaaGreat
namespace Go.Proofs.YteicdddphdomkaaGreat
open Go.RowKit
set_option maxRecDepth 100000
def degL (P : List Tm) : Int := P.foldl (fun d t => max d (sumTo t.m 8)) (-1)
theorem degL_take {P : List Tm} {k : Nat} (h : k < P.length) : degL (P.take (k + 1)) = max (degL (P.take k)) (sumTo (tAt P k).m 8) := foldl_tAt (fun d t => max d (sumTo t.m 8)) (-1) h
theorem PDeg_abs (P : List Tm) (hP : PIn P 0 65535) (hn : P.length ≤ 1000000) : Abs Tryz.prog 37 [polD P] (ex (.int .i64 (degL P))) := by
 refine Abs.intro Tryz.func37 rfl (callFunc_run Tryz.func37 (by kernel_rfl) (by kernel_rfl)) rfl fun s0 => ?_
 rw [Tryz.ntmps37]
 apply AWp.seq; apply AWp.region; refine Wq Qz.assign ?_; apply AWl.nil; apply AThen.normal; apply AWp.seq; apply AWp.region; refine Wq Qz.assign ?_; apply AWl.nil; apply AThen.normal; apply AWp.seq; apply AWp.seq; apply AWp.region; refine Wq Qz.move ?_; refine Wq Qz.lenN ?_; refine Wq Qz.move ?_; apply AWl.nil; apply AThen.normal; apply AWp.block
 refine AWp.loop (fun mz σ => ∃ k, k ≤ P.length ∧ mz = P.length - k ∧ σ = ⟨[(3, .d (ex (.int .i64 (degL (P.take k))))), (6, .d (polD P)), (7, .d (ex (.int .i64 (P.length : Nat)))), (8, .d (ex (.int .i64 (k : Nat))))], []⟩) ?le ⟨0, by omega, rfl, rfl⟩ ?round
 case le => exact AS.le_of (by refine FrLe.cons rfl (AVle.d rfl) ?_; refine FrLe.cons rfl (AVle.d rfl) ?_; refine FrLe.cons rfl (AVle.d rfl) ?_; refine FrLe.cons rfl (AVle.d rfl) ?_; exact FrLe.nil) (by exact HpLe.nil)
 case round =>
  rintro mz _ ⟨k, hk, rfl, rfl⟩
  by_cases hlt : k < P.length
  ·have hin := hP _ (tAt_mem hlt)
   have hst := degL_take hlt
   apply AWp.seq; apply AWp.region; refine Wq Qz.cmpT ?_; apply AWl.nil; apply AThen.normal; apply AWp.seq; refine AWp.condT (ao rfl) ?_; apply AWp.skip; apply AThen.normal; apply AWp.seq; apply AWp.block; apply AWp.seq; apply AWp.region; refine Wq Qz.indexN ?_; refine Wq Qz.loadEf ?_; refine AWs.al (tab_of rfl) rfl rfl rfl rfl rfl rfl ?_; refine AWs.stF (ao rfl) (ao rfl) rfl (tab_of rfl) rfl rfl rfl ?_; apply AWl.nil; apply AThen.normal; apply AWp.region; refine Wq Qz.move ?_; refine Wq Qz.fldP ?_; refine Wq Qz.ldD ?_; refine Wq (Qz.call (mDegree_abs (tAt P k).m (hin.mono (by omega) (by omega)))) ?_; refine Wq Qz.max ?_; refine Wq Qz.assign ?_; apply AWl.nil; apply ABlock.normal; apply AThen.normal; apply AWp.region; refine Wq Qz.succ ?_; refine Wq Qz.move ?_; apply AWl.nil
   refine ALoop.next (P.length - (k + 1)) (by omega) ⟨k + 1, by omega, rfl, rfl⟩ ?_
   exact AS.le_of (by refine FrLe.cons rfl (AVle.int hst.symm) ?_; refine FrLe.cons rfl (AVle.d rfl) ?_; refine FrLe.cons rfl (AVle.d rfl) ?_; refine FrLe.cons rfl (AVle.d rfl) ?_; exact FrLe.nil) (by exact HpLe.nil)
  ·obtain rfl : k = P.length := by omega
   apply AWp.seq; apply AWp.region; refine Wq Qz.cmpF ?_; apply AWl.nil; apply AThen.normal; apply AWp.seq; refine AWp.condF (ao rfl) ?_; apply AWp.exit; apply AThen.exit; apply ALoop.exit; apply ABlock.hit; apply AThen.normal; apply AWp.seq; apply AWp.region; refine Wq Qz.move ?_; refine Wq Qz.assign ?_; apply AWl.nil; apply AThen.normal; apply AWp.ret
   exact Fin.ret (Rets.of1 (ResV.tmp rfl rfl) (D.le.of_eq (by rw [List.take_length])))
end Go.Proofs.YteicdddphdomkaaGreat
namespace Go.Proofs.YteicdddphdomkaaGreat
open Go.RowKit
theorem sub_sim {P Q P' Q' : List Tm} (h : Sim P P') (k : Sim Q Q') : Sim (psub P Q) (P' ++ neg Q') := (mrg_sim _ _).trans (h.append (neg_sim k))
theorem add_sim {P Q P' Q' : List Tm} (h : Sim P P') (k : Sim Q Q') : Sim (mrg P Q) (P' ++ Q') := (mrg_sim _ _).trans (h.append k)
theorem mul_sim {P Q P' Q' : List Tm} (h : Sim P P') (k : Sim Q Q') : Sim (pmul P Q) (mulL P' Q') := (pmul_sim _ _).trans (h.mul k)
theorem constL_one : constL (1 : Int) = [⟨1, fun _ => 0⟩] := by
 rw [constL, if_neg (by decide)]
 rfl
end Go.Proofs.YteicdddphdomkaaGreat
namespace Go.Proofs.YteicdddphdomkaaGreat
open Go.RowKit
set_option maxRecDepth 100000
theorem got_abs (P : List Tm) : Abs Tryz.prog 17 [polD P, ex (.int .i64 0)] (polD P) := by
 refine Abs.intro Tryz.func17 rfl (callFunc_run Tryz.func17 (by kernel_rfl) (by kernel_rfl)) rfl fun s0 => ?_
 rw [Tryz.ntmps17]
 repeat (first | apply AWp.seq | apply AWp.region | (refine AWs.q rfl rfl ?_; first | (apply Gt.move; refine ⟨_, Qs.move (ao rfl), ?_⟩) | (apply Gt.assign; refine ⟨_, Qs.assign (ao rfl), ?_⟩) | (apply Gt.bin; refine ⟨_, Qs.cmpF rfl (ao rfl) (ao rfl) (by first | (simp only [cmpP, List.length_cons, List.length_nil]; omega) | (simp [cmpP]; done) | (simp [cmpP]; omega)), ?_⟩)) | apply AWl.nil | apply AThen.normal | apply AWp.skip | apply AWp.ret | (apply Gc.cond; refine AWp.condF (ao rfl) ?_))
 exact Fin.ret (Rets.of1 (ResV.tmp rfl rfl) (D.le.refl _))
def xT : Tm := ⟨1, unitE 0⟩
def yT : Tm := ⟨1, unitE 1⟩
def yyT : Tm := ⟨1 * 1, add8 (unitE 1) (unitE 1)⟩
theorem var_pb (i : Nat) : PB [⟨1, unitE i⟩] 1 1 1 := one_pb unitE_in
theorem one_pol : PB (constL (1 : Int)) 1 1 1 := constL_pb (rsz_sm (by omega) (by omega)) (by omega)
theorem pmul_yy : pmul [yT] [yT] = [yyT] := by
 show mrg [] [yyT] = [yyT]
 rw [nil_mrg]
theorem sum_xyy : mrg [xT] [yyT] = [xT, yyT] := by
 rw [mrg_gt (show lx xT.m yyT.m = 1 by decide), nil_mrg]
theorem yy_pb : PB [yyT] 1 3 2 := by
 rw [← pmul_yy]
 exact (var_pb 1).mul (var_pb 1) (by omega) (by omega)
theorem ones_in (i : Nat) (hi : i < 8) : -1000 ≤ onesOf 255 i ∧ onesOf 255 i ≤ 1000 := by
 unfold onesOf
 omega
theorem lead_xyy : leadF [onesOf 255] xT [yyT] = yyT := by
 show upT [onesOf 255] xT yyT = yyT
 rw [upT, if_pos (by decide)]
theorem square_sim : Sim (pmul (mrg [xT] (constL (1 : Int))) (psub [xT] (constL (1 : Int)))) (psub (pmul [xT] [xT]) (constL (1 : Int))) := by
 refine (mul_sim (add_sim (Sim.refl _) (Sim.refl _)) (sub_sim (Sim.refl _) (Sim.refl _))).trans (Sim.symm ((sub_sim (pmul_sim _ _) (Sim.refl _)).trans ?_))
 intro f hf
 rw [constL_one]
 simp only [mulL, neg, fT, xT, List.map_cons, List.map_nil, List.flatMap_cons, List.flatMap_nil, List.cons_append, List.nil_append, dot]
 rw [add8_zero, zero_add8, add8_zero]
 grind
set_option maxHeartbeats 2000000 in
theorem sanity_abs : Abs Tryz.prog 13 [] (ex (.bool true)) := by
 have hx := var_pb 0
 have hy := var_pb 1
 have h1 := one_pol
 have ha := hx.add h1
 have hs := hx.sub h1
 have hm := ha.mul hs (by omega) (by omega)
 have hxx := hx.mul hx (by omega) (by omega)
 have hd := hxx.sub h1
 have cyy := PMul_pb hy hy (by omega) (by omega) (by omega) (by omega) (by omega)
 rw [show pmul [⟨1, unitE 1⟩] [⟨1, unitE 1⟩] = [yyT] from pmul_yy] at cyy
 have csum := PAdd_pb hx yy_pb (by omega) (by omega)
 rw [show mrg [⟨1, unitE 0⟩] [yyT] = [xT, yyT] from sum_xyy] at csum
 have clead := PLead_abs xT [yyT] [onesOf 255] (fun r hr => by rw [List.mem_singleton.1 hr]; exact fun i hi => ones_in i hi) ((show PIn [xT, yyT] 0 2 from fun t ht => by
  rcases List.mem_cons.1 ht with rfl | ht
  ·exact (hx.ex _ (by simp [xT])).mono (by omega) (by omega)
  ·exact yy_pb.ex t ht).mono (by omega) (by omega)) (by simp)
 rw [lead_xyy] at clead
 have csq := RSame_sim hm.can hd.can square_sim
 have cval := PValid_pb hm (by omega) (by omega) (by omega)
 refine Abs.intro Tryz.func13 rfl (callFunc_run Tryz.func13 (by kernel_rfl) (by kernel_rfl)) rfl fun s0 => ?_
 rw [Tryz.ntmps13]
 have hyy : eqB yyT.m (fun i => ([0, 2] : List Int).getD i 0) = true := by decide
 repeat (first | refine AWs.qG rfl rfl rfl rfl rfl ?_; refine ⟨_, Qs.eqMonT (a := yyT.m) (b := fun i => ([0, 2] : List Int).getD i 0) (ao rfl) (ao rfl) hyy, ?_⟩ | apply AWp.seq | apply AWp.region | (apply Ga.alloc; refine AWs.al (tab_of rfl) rfl rfl rfl rfl rfl rfl ?_) | (apply Ga.store; refine AWs.stF (ao rfl) (ao rfl) rfl (tab_of rfl) rfl rfl rfl ?_) | (refine AWs.q rfl rfl ?_; first | (apply Gt.move; refine ⟨_, Qs.move (ao rfl), ?_⟩) | (apply Gt.assign; refine ⟨_, Qs.assign (ao rfl), ?_⟩) | (apply Gt.bin; refine ⟨_, Qs.cmpF rfl (ao rfl) (ao rfl) (by first | (simp only [cmpP, List.length_cons, List.length_nil]; omega) | (simp [cmpP]; done) | (simp [cmpP]; omega)), ?_⟩) | (apply Gt.ext; refine ⟨_, Qs.ext (ao rfl) rfl, ?_⟩) | (apply Gt.pick; first | refine ⟨_, Qs.pickT (ao rfl) (ao rfl), ?_⟩ | refine ⟨_, Qs.pickF (ao rfl) (ao rfl), ?_⟩) | (apply Gt.callv; first | refine ⟨_, Qs.call (ao rfl) (PVar_abs 0 (by omega)) (by first | ((repeat (first | exact ArgsLe.nil | refine ArgsLe.cons rfl (D.le.refl _) ?_ | refine ArgsLe.cons rfl D.le_nil ?_)); done) | fail), ?_⟩ | refine ⟨_, Qs.call (ao rfl) (PVar_abs 1 (by omega)) (by first | ((repeat (first | exact ArgsLe.nil | refine ArgsLe.cons rfl (D.le.refl _) ?_ | refine ArgsLe.cons rfl D.le_nil ?_)); done) | fail), ?_⟩ | refine ⟨_, Qs.call (ao rfl) (RWhole_abs 1 (by omega) (by omega)) (by first | ((repeat (first | exact ArgsLe.nil | refine ArgsLe.cons rfl (D.le.refl _) ?_ | refine ArgsLe.cons rfl D.le_nil ?_)); done) | fail), ?_⟩ | refine ⟨_, Qs.call (ao rfl) (PConst_abs (1 : Int)) (by first | ((repeat (first | exact ArgsLe.nil | refine ArgsLe.cons rfl (D.le.refl _) ?_ | refine ArgsLe.cons rfl D.le_nil ?_)); done) | fail), ?_⟩ | refine ⟨_, Qs.call (ao rfl) (RX_abs 0 (by omega)) (by first | ((repeat (first | exact ArgsLe.nil | refine ArgsLe.cons rfl (D.le.refl _) ?_ | refine ArgsLe.cons rfl D.le_nil ?_)); done) | fail), ?_⟩ | refine ⟨_, Qs.call (ao rfl) (RInt_abs 1 (by omega) (by omega)) (by first | ((repeat (first | exact ArgsLe.nil | refine ArgsLe.cons rfl (D.le.refl _) ?_ | refine ArgsLe.cons rfl D.le_nil ?_)); done) | fail), ?_⟩ | refine ⟨_, Qs.call (ao rfl) (PAdd_pb hx h1 (by omega) (by omega)) (by first | ((repeat (first | exact ArgsLe.nil | refine ArgsLe.cons rfl (D.le.refl _) ?_ | refine ArgsLe.cons rfl D.le_nil ?_)); done) | fail), ?_⟩ | refine ⟨_, Qs.call (ao rfl) (PSub_pb hx h1 (by omega) (by omega)) (by first | ((repeat (first | exact ArgsLe.nil | refine ArgsLe.cons rfl (D.le.refl _) ?_ | refine ArgsLe.cons rfl D.le_nil ?_)); done) | fail), ?_⟩ | refine ⟨_, Qs.call (ao rfl) (PMul_pb ha hs (by omega) (by omega) (by omega) (by omega) (by omega)) (by first | ((repeat (first | exact ArgsLe.nil | refine ArgsLe.cons rfl (D.le.refl _) ?_ | refine ArgsLe.cons rfl D.le_nil ?_)); done) | fail), ?_⟩ | refine ⟨_, Qs.call (ao rfl) (got_abs _) (by first | ((repeat (first | exact ArgsLe.nil | refine ArgsLe.cons rfl (D.le.refl _) ?_ | refine ArgsLe.cons rfl D.le_nil ?_)); done) | fail), ?_⟩ | refine ⟨_, Qs.call (ao rfl) (cyy) (by first | ((repeat (first | exact ArgsLe.nil | refine ArgsLe.cons rfl (D.le.refl _) ?_ | refine ArgsLe.cons rfl D.le_nil ?_)); done) | fail), ?_⟩ | refine ⟨_, Qs.call (ao rfl) (csum) (by first | ((repeat (first | exact ArgsLe.nil | refine ArgsLe.cons rfl (D.le.refl _) ?_ | refine ArgsLe.cons rfl D.le_nil ?_)); done) | fail), ?_⟩ | refine ⟨_, Qs.call (ao rfl) (RGraded_abs) (by first | ((repeat (first | exact ArgsLe.nil | refine ArgsLe.cons rfl (D.le.refl _) ?_ | refine ArgsLe.cons rfl D.le_nil ?_)); done) | fail), ?_⟩ | refine ⟨_, Qs.call (ao rfl) (clead) (by first | ((repeat (first | exact ArgsLe.nil | refine ArgsLe.cons rfl (D.le.refl _) ?_ | refine ArgsLe.cons rfl D.le_nil ?_)); done) | fail), ?_⟩ | refine ⟨_, Qs.call (ao rfl) (RLex_abs) (by first | ((repeat (first | exact ArgsLe.nil | refine ArgsLe.cons rfl (D.le.refl _) ?_ | refine ArgsLe.cons rfl D.le_nil ?_)); done) | fail), ?_⟩ | refine ⟨_, Qs.call (ao rfl) (PLead0_abs []) (by first | ((repeat (first | exact ArgsLe.nil | refine ArgsLe.cons rfl (D.le.refl _) ?_ | refine ArgsLe.cons rfl D.le_nil ?_)); done) | fail), ?_⟩ | refine ⟨_, Qs.call (ao rfl) (RBy_pb hx hx (by omega) (by omega) (by omega) (by omega) (by omega) (by omega)) (by first | ((repeat (first | exact ArgsLe.nil | refine ArgsLe.cons rfl (D.le.refl _) ?_ | refine ArgsLe.cons rfl D.le_nil ?_)); done) | fail), ?_⟩ | refine ⟨_, Qs.call (ao rfl) (RSub_pb hxx h1 (by omega) (by omega) (by omega)) (by first | ((repeat (first | exact ArgsLe.nil | refine ArgsLe.cons rfl (D.le.refl _) ?_ | refine ArgsLe.cons rfl D.le_nil ?_)); done) | fail), ?_⟩ | refine ⟨_, Qs.call (ao rfl) (csq) (by first | ((repeat (first | exact ArgsLe.nil | refine ArgsLe.cons rfl (D.le.refl _) ?_ | refine ArgsLe.cons rfl D.le_nil ?_)); done) | fail), ?_⟩)) | (refine AWs.qG rfl rfl rfl rfl rfl ?_; first | (apply Gt.move; refine ⟨_, Qs.move (ao rfl), ?_⟩) | (apply Gt.load; refine ⟨_, Qs.ldD (ao rfl) rfl (tab_of rfl) rfl rfl, ?_⟩) | (apply Gt.fieldAddr; refine ⟨_, Qs.fldP (ao rfl) (tab_of rfl) rfl (tab_of rfl) rfl, ?_⟩) | (apply Gt.bin; first | refine ⟨_, Qs.cmpF rfl (ao rfl) (ao rfl) (by first | (simp only [cmpP, List.length_cons, List.length_nil]; omega) | (simp [cmpP]; done) | (simp [cmpP]; omega)), ?_⟩ | refine ⟨_, Qs.cmp (ao rfl) (ao rfl) rfl, ?_⟩) | (apply Gt.un; refine ⟨_, Qs.not (ao rfl), ?_⟩) | (apply Gt.build; (refine Bq.arr (tab_of rfl) (tab_of rfl) rfl rfl ?_; (repeat ((first | refine ⟨_, PartOk.ag (ao rfl), ?_⟩ | refine ⟨_, PartOk.one rfl (by first | exact One.ex_ rfl | exact One.sl | exact One.ep), ?_⟩); refine ⟨_, rfl, ?_⟩)); refine ⟨_, rfl, ?_⟩)) | (apply Gt.callv; first | refine ⟨_, Qs.call (ao rfl) (RX_abs 0 (by omega)) (by first | ((repeat (first | exact ArgsLe.nil | refine ArgsLe.cons rfl (D.le.refl _) ?_ | refine ArgsLe.cons rfl D.le_nil ?_)); done) | fail), ?_⟩ | refine ⟨_, Qs.call (ao rfl) (RX_abs 1 (by omega)) (by first | ((repeat (first | exact ArgsLe.nil | refine ArgsLe.cons rfl (D.le.refl _) ?_ | refine ArgsLe.cons rfl D.le_nil ?_)); done) | fail), ?_⟩ | refine ⟨_, Qs.call (ao rfl) (RSame_true (SameL.refl [⟨1, unitE 0⟩])) (by first | ((repeat (first | exact ArgsLe.nil | refine ArgsLe.cons rfl (D.le.refl _) ?_ | refine ArgsLe.cons rfl D.le_nil ?_)); done) | fail), ?_⟩ | refine ⟨_, Qs.call (ao rfl) (RSame_true (SameL.refl [⟨1, unitE 1⟩])) (by first | ((repeat (first | exact ArgsLe.nil | refine ArgsLe.cons rfl (D.le.refl _) ?_ | refine ArgsLe.cons rfl D.le_nil ?_)); done) | fail), ?_⟩ | refine ⟨_, Qs.call (ao rfl) (RSame_true (SameL.refl (constL (1 : Int)))) (by first | ((repeat (first | exact ArgsLe.nil | refine ArgsLe.cons rfl (D.le.refl _) ?_ | refine ArgsLe.cons rfl D.le_nil ?_)); done) | fail), ?_⟩ | refine ⟨_, Qs.call (ao rfl) (RInt_abs 1 (by omega) (by omega)) (by first | ((repeat (first | exact ArgsLe.nil | refine ArgsLe.cons rfl (D.le.refl _) ?_ | refine ArgsLe.cons rfl D.le_nil ?_)); done) | fail), ?_⟩ | refine ⟨_, Qs.call (ao rfl) (cval) (by first | ((repeat (first | exact ArgsLe.nil | refine ArgsLe.cons rfl (D.le.refl _) ?_ | refine ArgsLe.cons rfl D.le_nil ?_)); done) | fail), ?_⟩ | refine ⟨_, Qs.call (ao rfl) (PDeg_abs [] (fun t h => (by cases h)) (by simp)) (by first | ((repeat (first | exact ArgsLe.nil | refine ArgsLe.cons rfl (D.le.refl _) ?_ | refine ArgsLe.cons rfl D.le_nil ?_)); done) | fail), ?_⟩)) | apply AWl.nil | apply AThen.normal | apply AWp.skip | apply AWp.ret | (apply Gc.cond; refine AWp.condF (ao rfl) ?_))
 exact Fin.ret (Rets.of1 (ResV.tmp rfl rfl) (D.le.refl _))
end Go.Proofs.YteicdddphdomkaaGreat
namespace Go.Proofs.YteicdddphdomkaaGreat
open Go.RowKit
set_option maxRecDepth 100000
def tcmp (s t : Tm) : Int := if eqB s.m t.m = true then qcmp s.c t.c else lex8 s.m t.m
def pcmp : List Tm → List Tm → Int
 | [], [] => 0
 | [], _ :: _ => -1
 | _ :: _, [] => 1
 | s :: P, t :: Q => if tcmp s t = 0 then pcmp P Q else tcmp s t
theorem Cmp1_abs (s t : Tm) (hs : RSz s.c 1000000000) (ht : RSz t.c 1000000000) : Abs Tryz.prog 106 [agD (tmC s), agD (tmC t)] (ex (.int .i64 (tcmp s t))) := by
 cases h : eqB s.m t.m with
 | true =>
  have e : tcmp s t = qcmp s.c t.c := if_pos h
  refine Abs.intro Tryz.func106 rfl (callFunc_run Tryz.func106 (by kernel_rfl) (by kernel_rfl)) rfl fun s0 => ?_
  rw [Tryz.ntmps106]
  apply AWp.seq; apply AWp.region; refine AWs.bx (ao rfl) rfl rfl rfl rfl ?_; refine AWs.bx (ao rfl) rfl rfl rfl rfl ?_; refine Wq Qz.assign ?_; apply AWl.nil; apply AThen.normal; apply AWp.seq; apply AWp.seq; apply AWp.region; refine Wq Qz.fldP ?_; refine Wq Qz.ldD ?_; refine Wq Qz.fldP ?_; refine Wq Qz.ldD ?_; refine Wq Qz.neMonF ?_; apply AWl.nil; apply AThen.normal; refine AWp.condF (ao rfl) ?_; apply AWp.skip; apply AThen.normal; apply AWp.seq; apply AWp.region; refine Wq Qz.fldP ?_; refine Wq Qz.ldD ?_; refine Wq Qz.fldP ?_; refine Wq Qz.ldD ?_; refine Wq (Qz.call (rCmp_abs s.c t.c hs ht)) ?_; refine Wq Qz.assign ?_; apply AWl.nil; apply AThen.normal; apply AWp.ret
  exact Fin.ret (Rets.of1 (ResV.tmp rfl rfl) (D.le.of_eq (by rw [e])))
 | false =>
  have e : tcmp s t = lex8 s.m t.m := if_neg (by rw [h]; decide)
  refine Abs.intro Tryz.func106 rfl (callFunc_run Tryz.func106 (by kernel_rfl) (by kernel_rfl)) rfl fun s0 => ?_
  rw [Tryz.ntmps106]
  apply AWp.seq; apply AWp.region; refine AWs.bx (ao rfl) rfl rfl rfl rfl ?_; refine AWs.bx (ao rfl) rfl rfl rfl rfl ?_; refine Wq Qz.assign ?_; apply AWl.nil; apply AThen.normal; apply AWp.seq; apply AWp.seq; apply AWp.region; refine Wq Qz.fldP ?_; refine Wq Qz.ldD ?_; refine Wq Qz.fldP ?_; refine Wq Qz.ldD ?_; refine Wq Qz.neMonT ?_; apply AWl.nil; apply AThen.normal; refine AWp.condT (ao rfl) ?_; apply AWp.seq; apply AWp.region; refine Wq Qz.fldP ?_; refine Wq Qz.ldD ?_; refine Wq Qz.fldP ?_; refine Wq Qz.ldD ?_; refine Wq (Qz.call (mCmp_abs s.m t.m)) ?_; refine Wq Qz.assign ?_; apply AWl.nil; apply AThen.normal; apply AWp.ret; apply AThen.ret
  exact Fin.ret (Rets.of1 (ResV.tmp rfl rfl) (D.le.of_eq (by rw [e])))
theorem pcmp_drop {P Q : List Tm} {k : Nat} (h1 : k < P.length) (h2 : k < Q.length) : pcmp (P.drop k) (Q.drop k) = if tcmp (tAt P k) (tAt Q k) = 0 then pcmp (P.drop (k + 1)) (Q.drop (k + 1)) else tcmp (tAt P k) (tAt Q k) := by
 rw [drop_tAt h1, drop_tAt h2, pcmp]
theorem CompareF_abs (P Q : List Tm) (hP : PSz P 1000000000) (hQ : PSz Q 1000000000) (hn : P.length ≤ 1000000) (hm : Q.length ≤ 1000000) : Abs Tryz.prog 105 [polD P, polD Q, ex (.func (.func 106) #[] #[])] (ex (.int .i64 (pcmp P Q))) := by
 refine Abs.intro Tryz.func105 rfl (callFunc_run Tryz.func105 (by kernel_rfl) (by kernel_rfl)) rfl fun s0 => ?_
 rw [Tryz.ntmps105]
 apply AWp.seq; apply AWp.region; refine Wq Qz.assign ?_; apply AWl.nil; apply AThen.normal; apply AWp.seq; apply AWp.seq; apply AWp.region; refine Wq Qz.move ?_; refine Wq Qz.lenN ?_; refine Wq Qz.move ?_; apply AWl.nil; apply AThen.normal; apply AWp.block
 refine AWp.loop (fun mz σ => ∃ k, k ≤ P.length ∧ k ≤ Q.length ∧ pcmp P Q = pcmp (P.drop k) (Q.drop k) ∧ mz = P.length - k ∧ σ = ⟨[(0, .d (polD P)), (1, .d (polD Q)), (2, .d (ex (.func (.func 106) #[] #[]))), (11, .d (polD P)), (12, .d (ex (.int .i64 (P.length : Nat)))), (13, .d (ex (.int .i64 (k : Nat))))], []⟩) ?le ⟨0, by omega, by omega, rfl, rfl, rfl⟩ ?round
 case le => exact AS.le_of (by refine FrLe.cons rfl (AVle.d rfl) ?_; refine FrLe.cons rfl (AVle.d rfl) ?_; refine FrLe.cons rfl (AVle.d rfl) ?_; refine FrLe.cons rfl (AVle.d rfl) ?_; refine FrLe.cons rfl (AVle.d rfl) ?_; refine FrLe.cons rfl (AVle.d rfl) ?_; exact FrLe.nil) (by exact HpLe.nil)
 case round =>
  rintro m _ ⟨k, hk, hk2, heq, rfl, rfl⟩
  by_cases hlt : k < P.length
  ·by_cases hlt2 : k < Q.length
   ·have hs := hP _ (tAt_mem hlt)
    have ht := hQ _ (tAt_mem hlt2)
    have hd := pcmp_drop hlt hlt2
    by_cases hz : tcmp (tAt P k) (tAt Q k) = 0
    ·rw [if_pos hz] at hd
     apply AWp.seq; apply AWp.region; refine Wq Qz.cmpT ?_; apply AWl.nil; apply AThen.normal; apply AWp.seq; refine AWp.condT (ao rfl) ?_; apply AWp.skip; apply AThen.normal; apply AWp.seq; apply AWp.block; apply AWp.seq; apply AWp.region; refine Wq Qz.move ?_; refine Wq Qz.indexN ?_; refine Wq Qz.loadEf ?_; refine AWs.al (tab_of rfl) rfl rfl rfl rfl rfl rfl ?_; refine Wq Qz.assign ?_; refine AWs.stF (ao rfl) (ao rfl) rfl (tab_of rfl) rfl rfl rfl ?_; apply AWl.nil; apply AThen.normal; apply AWp.seq; apply AWp.seq; apply AWp.region; refine Wq Qz.move ?_; refine Wq Qz.move ?_; refine Wq Qz.lenN ?_; refine Wq Qz.cmpF ?_; apply AWl.nil; apply AThen.normal; refine AWp.condF (ao rfl) ?_; apply AWp.skip; apply AThen.normal; apply AWp.seq; apply AWp.region; refine Wq Qz.move ?_; refine Wq Qz.move ?_; refine Wq Qz.indexN ?_; refine Wq Qz.loadEf ?_; refine AWs.al (tab_of rfl) rfl rfl rfl rfl rfl rfl ?_; refine AWs.stF (ao rfl) (ao rfl) rfl (tab_of rfl) rfl rfl rfl ?_; apply AWl.nil; apply AThen.normal; apply AWp.seq; apply AWp.region; refine Wq Qz.move ?_; refine Wq Qz.ldD ?_; refine Wq Qz.ldD ?_; refine Wq (Qz.call (Cmp1_abs (tAt P k) (tAt Q k) hs ht)) ?_; refine Wq Qz.assign ?_; apply AWl.nil; apply AThen.normal; apply AWp.seq; apply AWp.region; refine Wq Qz.move ?_; refine Wq Qz.cmpF ?_; apply AWl.nil; apply AThen.normal; refine AWp.condF (ao rfl) ?_; apply AWp.skip; apply ABlock.normal; apply AThen.normal; apply AWp.region; refine Wq Qz.succ ?_; refine Wq Qz.move ?_; apply AWl.nil
     refine ALoop.next (P.length - (k + 1)) (by omega) ⟨k + 1, by omega, by omega, by rw [heq, hd], rfl, rfl⟩ ?_
     exact AS.le_of (by refine FrLe.cons rfl (AVle.d rfl) ?_; refine FrLe.cons rfl (AVle.d rfl) ?_; refine FrLe.cons rfl (AVle.d rfl) ?_; refine FrLe.cons rfl (AVle.d rfl) ?_; refine FrLe.cons rfl (AVle.d rfl) ?_; refine FrLe.cons rfl (AVle.d rfl) ?_; exact FrLe.nil) (by exact HpLe.nil)
    ·rw [if_neg hz] at hd
     apply AWp.seq; apply AWp.region; refine Wq Qz.cmpT ?_; apply AWl.nil; apply AThen.normal; apply AWp.seq; refine AWp.condT (ao rfl) ?_; apply AWp.skip; apply AThen.normal; apply AWp.seq; apply AWp.block; apply AWp.seq; apply AWp.region; refine Wq Qz.move ?_; refine Wq Qz.indexN ?_; refine Wq Qz.loadEf ?_; refine AWs.al (tab_of rfl) rfl rfl rfl rfl rfl rfl ?_; refine Wq Qz.assign ?_; refine AWs.stF (ao rfl) (ao rfl) rfl (tab_of rfl) rfl rfl rfl ?_; apply AWl.nil; apply AThen.normal; apply AWp.seq; apply AWp.seq; apply AWp.region; refine Wq Qz.move ?_; refine Wq Qz.move ?_; refine Wq Qz.lenN ?_; refine Wq Qz.cmpF ?_; apply AWl.nil; apply AThen.normal; refine AWp.condF (ao rfl) ?_; apply AWp.skip; apply AThen.normal; apply AWp.seq; apply AWp.region; refine Wq Qz.move ?_; refine Wq Qz.move ?_; refine Wq Qz.indexN ?_; refine Wq Qz.loadEf ?_; refine AWs.al (tab_of rfl) rfl rfl rfl rfl rfl rfl ?_; refine AWs.stF (ao rfl) (ao rfl) rfl (tab_of rfl) rfl rfl rfl ?_; apply AWl.nil; apply AThen.normal; apply AWp.seq; apply AWp.region; refine Wq Qz.move ?_; refine Wq Qz.ldD ?_; refine Wq Qz.ldD ?_; refine Wq (Qz.call (Cmp1_abs (tAt P k) (tAt Q k) hs ht)) ?_; refine Wq Qz.assign ?_; apply AWl.nil; apply AThen.normal; apply AWp.seq; apply AWp.region; refine Wq Qz.move ?_; refine Wq Qz.cmpT ?_; apply AWl.nil; apply AThen.normal; refine AWp.condT (ao rfl) ?_; apply AWp.seq; apply AWp.region; refine Wq Qz.move ?_; refine Wq Qz.assign ?_; apply AWl.nil; apply AThen.normal; apply AWp.ret; apply ABlock.ret; apply AThen.ret; apply ALoop.ret; apply ABlock.ret; apply AThen.ret
     exact Fin.ret (Rets.of1 (ResV.tmp rfl rfl) (D.le.of_eq (by rw [heq, hd])))
   ·have e : pcmp P Q = 1 := by
     rw [heq, drop_tAt hlt, (List.drop_eq_nil_of_le (by omega) : Q.drop k = []), pcmp]
    apply AWp.seq; apply AWp.region; refine Wq Qz.cmpT ?_; apply AWl.nil; apply AThen.normal; apply AWp.seq; refine AWp.condT (ao rfl) ?_; apply AWp.skip; apply AThen.normal; apply AWp.seq; apply AWp.block; apply AWp.seq; apply AWp.region; refine Wq Qz.move ?_; refine Wq Qz.indexN ?_; refine Wq Qz.loadEf ?_; refine AWs.al (tab_of rfl) rfl rfl rfl rfl rfl rfl ?_; refine Wq Qz.assign ?_; refine AWs.stF (ao rfl) (ao rfl) rfl (tab_of rfl) rfl rfl rfl ?_; apply AWl.nil; apply AThen.normal; apply AWp.seq; apply AWp.seq; apply AWp.region; refine Wq Qz.move ?_; refine Wq Qz.move ?_; refine Wq Qz.lenN ?_; refine Wq Qz.cmpT ?_; apply AWl.nil; apply AThen.normal; refine AWp.condT (ao rfl) ?_; apply AWp.seq; apply AWp.region; refine Wq Qz.assign ?_; apply AWl.nil; apply AThen.normal; apply AWp.ret; apply AThen.ret; apply ABlock.ret; apply AThen.ret; apply ALoop.ret; apply ABlock.ret; apply AThen.ret
    exact Fin.ret (Rets.of1 (ResV.tmp rfl rfl) (D.le.of_eq (by rw [e])))
  ·have hp : P.drop k = [] := List.drop_eq_nil_of_le (by omega)
   by_cases hlt2 : k < Q.length
   ·have e : pcmp P Q = -1 := by
     rw [heq, hp, drop_tAt hlt2, pcmp]
    apply AWp.seq; apply AWp.region; refine Wq Qz.cmpF ?_; apply AWl.nil; apply AThen.normal; apply AWp.seq; refine AWp.condF (ao rfl) ?_; apply AWp.exit; apply AThen.exit; apply ALoop.exit; apply ABlock.hit; apply AThen.normal; apply AWp.seq; apply AWp.seq; apply AWp.region; refine Wq Qz.move ?_; refine Wq Qz.lenN ?_; refine Wq Qz.move ?_; refine Wq Qz.lenN ?_; refine Wq Qz.cmpT ?_; apply AWl.nil; apply AThen.normal; refine AWp.condT (ao rfl) ?_; apply AWp.seq; apply AWp.region; refine Wq Qz.assign ?_; apply AWl.nil; apply AThen.normal; apply AWp.ret; apply AThen.ret
    exact Fin.ret (Rets.of1 (ResV.tmp rfl rfl) (D.le.of_eq (by rw [e])))
   ·have e : pcmp P Q = 0 := by
     rw [heq, hp, (List.drop_eq_nil_of_le (by omega) : Q.drop k = []), pcmp]
    apply AWp.seq; apply AWp.region; refine Wq Qz.cmpF ?_; apply AWl.nil; apply AThen.normal; apply AWp.seq; refine AWp.condF (ao rfl) ?_; apply AWp.exit; apply AThen.exit; apply ALoop.exit; apply ABlock.hit; apply AThen.normal; apply AWp.seq; apply AWp.seq; apply AWp.region; refine Wq Qz.move ?_; refine Wq Qz.lenN ?_; refine Wq Qz.move ?_; refine Wq Qz.lenN ?_; refine Wq Qz.cmpF ?_; apply AWl.nil; apply AThen.normal; refine AWp.condF (ao rfl) ?_; apply AWp.skip; apply AThen.normal; apply AWp.seq; apply AWp.region; refine Wq Qz.assign ?_; apply AWl.nil; apply AThen.normal; apply AWp.ret
    exact Fin.ret (Rets.of1 (ResV.tmp rfl rfl) (D.le.of_eq (by rw [e])))
theorem PCmp_abs (P Q : List Tm) (hP : PSz P 1000000000) (hQ : PSz Q 1000000000) (hn : P.length ≤ 1000000) (hm : Q.length ≤ 1000000) : Abs Tryz.prog 42 [polD P, polD Q] (ex (.int .i64 (pcmp P Q))) := by
 refine Abs.intro Tryz.func42 rfl (callFunc_run Tryz.func42 (by kernel_rfl) (by kernel_rfl)) rfl fun s0 => ?_
 rw [Tryz.ntmps42]
 apply AWp.seq; apply AWp.region; refine Wq Qz.assign ?_; apply AWl.nil; apply AThen.normal; apply AWp.seq; apply AWp.region; refine Wq Qz.move ?_; refine Wq Qz.move ?_; refine Wq (Qz.call (CompareF_abs P Q hP hQ hn hm)) ?_; refine Wq Qz.assign ?_; apply AWl.nil; apply AThen.normal; apply AWp.ret
 exact Fin.ret (Rets.of1 (ResV.tmp rfl rfl) (D.le.refl _))
end Go.Proofs.YteicdddphdomkaaGreat
namespace Go.Proofs.YteicdddphdomkaaGreat
open Go.RowKit
theorem qcmp_le {p q : Rat} : qcmp p q ≤ 0 ↔ p ≤ q := by
 rw [qcmp, Int.sign_nonpos_iff, Rat.le_iff]; omega
theorem qcmp_zero {p q : Rat} : qcmp p q = 0 ↔ p = q := by
 rw [qcmp, Int.sign_eq_zero_iff_zero, Rat.eq_iff_mul_eq_mul]; omega
theorem qcmp_neg (p q : Rat) : qcmp q p = -qcmp p q := by
 rw [qcmp, qcmp, ← Int.sign_neg]; congr 1; omega
theorem qcmp_val (p q : Rat) : qcmp p q = -1 ∨ qcmp p q = 0 ∨ qcmp p q = 1 := by
 unfold qcmp
 rcases Int.lt_trichotomy (p.num * (q.den : Int) - q.num * (p.den : Int)) 0 with h | h | h
 ·exact .inl (Int.sign_eq_neg_one_of_neg h)
 ·exact .inr (.inl (by rw [h]; rfl))
 ·exact .inr (.inr (Int.sign_eq_one_of_pos h))
theorem qcmp_trans {p q r : Rat} (h : qcmp p q ≤ 0) (k : qcmp q r ≤ 0) : qcmp p r ≤ 0 ∧ (qcmp p q < 0 ∨ qcmp q r < 0 → qcmp p r < 0) := by
 have h1 := qcmp_le.1 h
 have k1 := qcmp_le.1 k
 refine ⟨qcmp_le.2 (Rat.le_trans h1 k1), fun hor => ?_⟩
 have h2 := qcmp_le.2 (Rat.le_trans h1 k1)
 have h3 : qcmp p r ≠ 0 := fun e => by
  have e := qcmp_zero.1 e
  subst e
  have e2 : p = q := Rat.le_antisymm h1 k1
  subst e2
  have := (qcmp_zero (p := p)).2 rfl
  omega
 omega
theorem tcmp_eq {s t : Tm} (h : Eqv s.m t.m) : tcmp s t = qcmp s.c t.c := if_pos (eqB_true.2 h)
theorem tcmp_ne {s t : Tm} (h : ¬ Eqv s.m t.m) : tcmp s t = lx s.m t.m := by rw [tcmp, if_neg fun h' => h (eqB_true.1 h'), lx_lex]
theorem lx_ne {a b : Nat → Int} (h : ¬ Eqv a b) : lx a b = -1 ∨ lx a b = 1 := by
 rcases lx_val a b with h1 | h1 | h1
 ·exact .inl h1
 ·exact absurd (lx_zero.1 h1) h
 ·exact .inr h1
theorem tcmp_val (s t : Tm) : tcmp s t = -1 ∨ tcmp s t = 0 ∨ tcmp s t = 1 := by
 by_cases h : Eqv s.m t.m
 ·rw [tcmp_eq h]; exact qcmp_val _ _
 ·rw [tcmp_ne h]; rcases lx_ne h with h | h <;> omega
theorem tcmp_neg (s t : Tm) : tcmp t s = -tcmp s t := by
 by_cases h : Eqv s.m t.m
 ·rw [tcmp_eq h, tcmp_eq h.symm]; exact qcmp_neg _ _
 ·rw [tcmp_ne h, tcmp_ne fun h' => h h'.symm]; exact lx_neg _ _
theorem tcmp_zero {s t : Tm} : tcmp s t = 0 ↔ s.c = t.c ∧ Eqv s.m t.m := by
 by_cases h : Eqv s.m t.m
 ·rw [tcmp_eq h, qcmp_zero]; exact ⟨fun e => ⟨e, h⟩, fun e => e.1⟩
 ·rw [tcmp_ne h]
  exact ⟨fun e => absurd (lx_zero.1 e) h, fun e => absurd e.2 h⟩
theorem tcmp_trans {s t u : Tm} (h : tcmp s t ≤ 0) (k : tcmp t u ≤ 0) : tcmp s u ≤ 0 ∧ (tcmp s t < 0 ∨ tcmp t u < 0 → tcmp s u < 0) := by
 by_cases h1 : Eqv s.m t.m
 ·by_cases h2 : Eqv t.m u.m
  ·have h3 := h1.trans h2
   rw [tcmp_eq h1] at h ⊢
   rw [tcmp_eq h2] at k ⊢
   rw [tcmp_eq h3]
   exact qcmp_trans h k
  ·have h3 : ¬ Eqv s.m u.m := fun e => h2 (h1.symm.trans e)
   rw [tcmp_ne h2] at k ⊢
   rw [tcmp_ne h3, lx_congr h1 (Eqv.refl u.m)]
   rcases lx_ne h2 with e | e <;> omega
 ·rw [tcmp_ne h1] at h ⊢
  have e1 : lx s.m t.m = -1 := by rcases lx_ne h1 with e | e <;> omega
  by_cases h2 : Eqv t.m u.m
  ·have h3 : ¬ Eqv s.m u.m := fun e => h1 (e.trans h2.symm)
   rw [tcmp_ne h3, ← lx_congr (Eqv.refl s.m) h2]
   omega
  ·rw [tcmp_ne h2] at k ⊢
   have e2 : lx t.m u.m = -1 := by rcases lx_ne h2 with e | e <;> omega
   have e3 := lx_trans (a := u.m) (b := t.m) (c := s.m) (by rw [lx_neg]; omega) (by rw [lx_neg]; omega)
   have h3 : ¬ Eqv s.m u.m := fun e => ne_of_lx e3 e.symm
   rw [tcmp_ne h3, lx_neg u.m s.m]
   omega
theorem pcmp_val : ∀ P Q : List Tm, pcmp P Q = -1 ∨ pcmp P Q = 0 ∨ pcmp P Q = 1
 | [], [] => by simp [pcmp]
 | [], _ :: _ => by simp [pcmp]
 | _ :: _, [] => by simp [pcmp]
 | s :: P, t :: Q => by
  rw [pcmp]
  split
  ·exact pcmp_val P Q
  ·exact tcmp_val s t
theorem pcmp_neg : ∀ P Q : List Tm, pcmp Q P = -pcmp P Q
 | [], [] => by simp [pcmp]
 | [], _ :: _ => by simp [pcmp]
 | _ :: _, [] => by simp [pcmp]
 | s :: P, t :: Q => by
  have h := tcmp_neg s t
  rw [pcmp, pcmp]
  by_cases h0 : tcmp s t = 0
  ·rw [if_pos h0, if_pos (by omega), pcmp_neg P Q]
  ·rw [if_neg h0, if_neg (by omega), h]
theorem pcmp_zero : ∀ {P Q : List Tm}, pcmp P Q = 0 ↔ SameL P Q
 | [], [] => by simp [pcmp, SameL]
 | [], _ :: _ => by simp [pcmp, SameL]
 | _ :: _, [] => by simp [pcmp, SameL]
 | s :: P, t :: Q => by
  have ih := pcmp_zero (P := P) (Q := Q)
  have h := tcmp_zero (s := s) (t := t)
  rw [pcmp]
  by_cases h0 : tcmp s t = 0
  ·rw [if_pos h0, ih]
   have := h.1 h0
   exact ⟨fun e => ⟨this.1, this.2, e⟩, fun e => e.2.2⟩
  ·rw [if_neg h0]
   exact ⟨fun e => absurd e h0, fun e => absurd (h.2 ⟨e.1, e.2.1⟩) h0⟩
theorem pcmp_trans : ∀ {P Q R : List Tm}, pcmp P Q ≤ 0 → pcmp Q R ≤ 0 → pcmp P R ≤ 0 ∧ (pcmp P Q < 0 ∨ pcmp Q R < 0 → pcmp P R < 0)
 | [], [], [], _, _ => by simp [pcmp]
 | [], [], _ :: _, _, _ => by simp [pcmp]
 | [], _ :: _, [], _, k => by simp [pcmp] at k
 | [], _ :: _, _ :: _, _, _ => by simp [pcmp]
 | _ :: _, [], _, h, _ => by simp [pcmp] at h
 | _ :: _, _ :: _, [], _, k => by simp [pcmp] at k
 | s :: P, t :: Q, u :: R, h, k => by
  rw [pcmp] at h k ⊢
  rw [pcmp, pcmp]
  by_cases h0 : tcmp s t = 0
  ·rw [if_pos h0] at h ⊢
   by_cases k0 : tcmp t u = 0
   ·rw [if_pos k0] at k ⊢
    have h1 := tcmp_zero.1 h0
    have k1 := tcmp_zero.1 k0
    have e : tcmp s u = 0 := tcmp_zero.2 ⟨h1.1.trans k1.1, h1.2.trans k1.2⟩
    rw [if_pos e]
    exact pcmp_trans h k
   ·rw [if_neg k0] at k ⊢
    have := tcmp_trans (s := s) (t := t) (u := u) (by omega) k
    have e : ¬ tcmp s u = 0 := by omega
    rw [if_neg e]
    omega
  ·rw [if_neg h0] at h ⊢
   by_cases k0 : tcmp t u = 0
   ·rw [if_pos k0] at k ⊢
    have := tcmp_trans (s := s) (t := t) (u := u) h (by omega)
    have e : ¬ tcmp s u = 0 := by omega
    rw [if_neg e]
    omega
   ·rw [if_neg k0] at k ⊢
    have := tcmp_trans (s := s) (t := t) (u := u) h k
    have e : ¬ tcmp s u = 0 := by omega
    rw [if_neg e]
    omega
theorem pcmp_length {P Q : List Tm} (h : pcmp P Q = 0) : P.length = Q.length := (pcmp_zero.1 h).length
end Go.Proofs.YteicdddphdomkaaGreat
namespace Go.Proofs.YteicdddphdomkaaGreat
open Go.RowKit
set_option maxRecDepth 100000
theorem Same1_abs (s t : Tm) (hs : RSz s.c 1000000000) (ht : RSz t.c 1000000000) : Abs Tryz.prog 109 [agD (tmC s), agD (tmC t)] (ex (.bool (decide (tcmp s t = 0)))) := by
 cases h : eqB s.m t.m with
 | true =>
  have e : tcmp s t = qcmp s.c t.c := if_pos h
  by_cases hq : qcmp s.c t.c = 0
  ·have hd : decide (tcmp s t = 0) = true := decide_eq_true (e.trans hq)
   refine Abs.intro Tryz.func109 rfl (callFunc_run Tryz.func109 (by kernel_rfl) (by kernel_rfl)) rfl fun s0 => ?_
   rw [Tryz.ntmps109]
   apply AWp.seq; apply AWp.region; refine AWs.bx (ao rfl) rfl rfl rfl rfl ?_; refine AWs.bx (ao rfl) rfl rfl rfl rfl ?_; refine Wq Qz.assign ?_; apply AWl.nil; apply AThen.normal; apply AWp.seq; apply AWp.region; refine Wq Qz.fldP ?_; refine Wq Qz.ldD ?_; refine Wq Qz.fldP ?_; refine Wq Qz.ldD ?_; refine Wq Qz.eqMonT ?_; refine Wq Qz.move ?_; refine Wg Qz.fldP ?_; refine Wg Qz.ldD ?_; refine Wg Qz.fldP ?_; refine Wg Qz.ldD ?_; refine Wg (Qz.call (rCmp_abs s.c t.c hs ht)) ?_; refine Wg Qz.cmpT ?_; refine Wq Qz.pickT ?_; refine Wq Qz.assign ?_; apply AWl.nil; apply AThen.normal; apply AWp.ret
   exact Fin.ret (Rets.of1 (ResV.tmp rfl rfl) (D.le.of_eq (by rw [hd])))
  ·have hd : decide (tcmp s t = 0) = false := decide_eq_false (by rw [e]; exact hq)
   refine Abs.intro Tryz.func109 rfl (callFunc_run Tryz.func109 (by kernel_rfl) (by kernel_rfl)) rfl fun s0 => ?_
   rw [Tryz.ntmps109]
   apply AWp.seq; apply AWp.region; refine AWs.bx (ao rfl) rfl rfl rfl rfl ?_; refine AWs.bx (ao rfl) rfl rfl rfl rfl ?_; refine Wq Qz.assign ?_; apply AWl.nil; apply AThen.normal; apply AWp.seq; apply AWp.region; refine Wq Qz.fldP ?_; refine Wq Qz.ldD ?_; refine Wq Qz.fldP ?_; refine Wq Qz.ldD ?_; refine Wq Qz.eqMonT ?_; refine Wq Qz.move ?_; refine Wg Qz.fldP ?_; refine Wg Qz.ldD ?_; refine Wg Qz.fldP ?_; refine Wg Qz.ldD ?_; refine Wg (Qz.call (rCmp_abs s.c t.c hs ht)) ?_; refine Wg Qz.cmpF ?_; refine Wq Qz.pickT ?_; refine Wq Qz.assign ?_; apply AWl.nil; apply AThen.normal; apply AWp.ret
   exact Fin.ret (Rets.of1 (ResV.tmp rfl rfl) (D.le.of_eq (by rw [hd])))
 | false =>
  have hn : ¬ Eqv s.m t.m := fun h' => by rw [eqB_true.2 h'] at h; cases h
  have hd : decide (tcmp s t = 0) = false := decide_eq_false fun e => hn (tcmp_zero.1 e).2
  refine Abs.intro Tryz.func109 rfl (callFunc_run Tryz.func109 (by kernel_rfl) (by kernel_rfl)) rfl fun s0 => ?_
  rw [Tryz.ntmps109]
  apply AWp.seq; apply AWp.region; refine AWs.bx (ao rfl) rfl rfl rfl rfl ?_; refine AWs.bx (ao rfl) rfl rfl rfl rfl ?_; refine Wq Qz.assign ?_; apply AWl.nil; apply AThen.normal; apply AWp.seq; apply AWp.region; refine Wq Qz.fldP ?_; refine Wq Qz.ldD ?_; refine Wq Qz.fldP ?_; refine Wq Qz.ldD ?_; refine Wq Qz.eqMonF ?_; refine Wq Qz.move ?_; refine Ws ?_; refine Ws ?_; refine Ws ?_; refine Ws ?_; refine Ws ?_; refine Ws ?_; refine Wq Qz.pickF ?_; refine Wq Qz.assign ?_; apply AWl.nil; apply AThen.normal; apply AWp.ret
  exact Fin.ret (Rets.of1 (ResV.tmp rfl rfl) (D.le.of_eq (by rw [hd])))
theorem EqualF_abs (P Q : List Tm) (hP : PSz P 1000000000) (hQ : PSz Q 1000000000) (hn : P.length ≤ 1000000) (hm : Q.length ≤ 1000000) : Abs Tryz.prog 108 [polD P, polD Q, ex (.func (.func 109) #[] #[])] (ex (.bool (decide (pcmp P Q = 0)))) := by
 by_cases hlen : P.length = Q.length
 ·refine Abs.intro Tryz.func108 rfl (callFunc_run Tryz.func108 (by kernel_rfl) (by kernel_rfl)) rfl fun s0 => ?_
  rw [Tryz.ntmps108]
  apply AWp.seq; apply AWp.region; refine Wq Qz.assign ?_; apply AWl.nil; apply AThen.normal; apply AWp.seq; apply AWp.seq; apply AWp.region; refine Wq Qz.move ?_; refine Wq Qz.lenN ?_; refine Wq Qz.move ?_; refine Wq Qz.lenN ?_; refine Wq Qz.cmpF ?_; apply AWl.nil; apply AThen.normal; refine AWp.condF (ao rfl) ?_; apply AWp.skip; apply AThen.normal; apply AWp.seq; apply AWp.seq; apply AWp.region; refine Wq Qz.move ?_; refine Wq Qz.lenN ?_; refine Wq Qz.move ?_; apply AWl.nil; apply AThen.normal; apply AWp.block
  refine AWp.loop (fun mz σ => ∃ k, k ≤ P.length ∧ pcmp P Q = pcmp (P.drop k) (Q.drop k) ∧ mz = P.length - k ∧ σ = ⟨[(1, .d (polD Q)), (2, .d (ex (.func (.func 109) #[] #[]))), (15, .d (polD P)), (16, .d (ex (.int .i64 (P.length : Nat)))), (17, .d (ex (.int .i64 (k : Nat))))], []⟩) ?le ⟨0, by omega, rfl, rfl, rfl⟩ ?round
  case le => exact AS.le_of (by refine FrLe.cons rfl (AVle.d rfl) ?_; refine FrLe.cons rfl (AVle.d rfl) ?_; refine FrLe.cons rfl (AVle.d rfl) ?_; refine FrLe.cons rfl (AVle.d rfl) ?_; refine FrLe.cons rfl (AVle.d rfl) ?_; exact FrLe.nil) (by exact HpLe.nil)
  case round =>
   rintro m _ ⟨k, hk, heq, rfl, rfl⟩
   by_cases hlt : k < P.length
   ·have hlt2 : k < Q.length := by omega
    have hs := hP _ (tAt_mem hlt)
    have ht := hQ _ (tAt_mem hlt2)
    have hd := pcmp_drop hlt hlt2
    have c1 := Same1_abs (tAt P k) (tAt Q k) hs ht
    by_cases hz : tcmp (tAt P k) (tAt Q k) = 0
    ·rw [if_pos hz] at hd
     rw [decide_eq_true hz] at c1
     apply AWp.seq; apply AWp.region; refine Wq Qz.cmpT ?_; apply AWl.nil; apply AThen.normal; apply AWp.seq; refine AWp.condT (ao rfl) ?_; apply AWp.skip; apply AThen.normal; apply AWp.seq; apply AWp.block; apply AWp.seq; apply AWp.region; refine Wq Qz.move ?_; refine Wq Qz.indexN ?_; refine Wq Qz.loadEf ?_; refine AWs.al (tab_of rfl) rfl rfl rfl rfl rfl rfl ?_; refine Wq Qz.assign ?_; refine AWs.stF (ao rfl) (ao rfl) rfl (tab_of rfl) rfl rfl rfl ?_; apply AWl.nil; apply AThen.normal; apply AWp.seq; apply AWp.region; refine Wq Qz.move ?_; refine Wq Qz.move ?_; refine Wq Qz.indexN ?_; refine Wq Qz.loadEf ?_; refine AWs.al (tab_of rfl) rfl rfl rfl rfl rfl rfl ?_; refine AWs.stF (ao rfl) (ao rfl) rfl (tab_of rfl) rfl rfl rfl ?_; apply AWl.nil; apply AThen.normal; apply AWp.seq; apply AWp.region; refine Wq Qz.move ?_; refine Wq Qz.ldD ?_; refine Wq Qz.ldD ?_; refine Wq (Qz.call (c1)) ?_; refine Wq Qz.not ?_; apply AWl.nil; apply AThen.normal; refine AWp.condF (ao rfl) ?_; apply AWp.skip; apply ABlock.normal; apply AThen.normal; apply AWp.region; refine Wq Qz.succ ?_; refine Wq Qz.move ?_; apply AWl.nil
     refine ALoop.next (P.length - (k + 1)) (by omega) ⟨k + 1, by omega, by rw [heq, hd], rfl, rfl⟩ ?_
     exact AS.le_of (by refine FrLe.cons rfl (AVle.d rfl) ?_; refine FrLe.cons rfl (AVle.d rfl) ?_; refine FrLe.cons rfl (AVle.d rfl) ?_; refine FrLe.cons rfl (AVle.d rfl) ?_; refine FrLe.cons rfl (AVle.d rfl) ?_; exact FrLe.nil) (by exact HpLe.nil)
    ·rw [if_neg hz] at hd
     rw [decide_eq_false hz] at c1
     have he : decide (pcmp P Q = 0) = false := decide_eq_false (by rw [heq, hd]; exact hz)
     apply AWp.seq; apply AWp.region; refine Wq Qz.cmpT ?_; apply AWl.nil; apply AThen.normal; apply AWp.seq; refine AWp.condT (ao rfl) ?_; apply AWp.skip; apply AThen.normal; apply AWp.seq; apply AWp.block; apply AWp.seq; apply AWp.region; refine Wq Qz.move ?_; refine Wq Qz.indexN ?_; refine Wq Qz.loadEf ?_; refine AWs.al (tab_of rfl) rfl rfl rfl rfl rfl rfl ?_; refine Wq Qz.assign ?_; refine AWs.stF (ao rfl) (ao rfl) rfl (tab_of rfl) rfl rfl rfl ?_; apply AWl.nil; apply AThen.normal; apply AWp.seq; apply AWp.region; refine Wq Qz.move ?_; refine Wq Qz.move ?_; refine Wq Qz.indexN ?_; refine Wq Qz.loadEf ?_; refine AWs.al (tab_of rfl) rfl rfl rfl rfl rfl rfl ?_; refine AWs.stF (ao rfl) (ao rfl) rfl (tab_of rfl) rfl rfl rfl ?_; apply AWl.nil; apply AThen.normal; apply AWp.seq; apply AWp.region; refine Wq Qz.move ?_; refine Wq Qz.ldD ?_; refine Wq Qz.ldD ?_; refine Wq (Qz.call (c1)) ?_; refine Wq Qz.not ?_; apply AWl.nil; apply AThen.normal; refine AWp.condT (ao rfl) ?_; apply AWp.seq; apply AWp.region; refine Wq Qz.assign ?_; apply AWl.nil; apply AThen.normal; apply AWp.ret; apply ABlock.ret; apply AThen.ret; apply ALoop.ret; apply ABlock.ret; apply AThen.ret
     exact Fin.ret (Rets.of1 (ResV.tmp rfl rfl) (D.le.of_eq (by rw [he])))
   ·have he : decide (pcmp P Q = 0) = true := decide_eq_true (by
     rw [heq, (List.drop_eq_nil_of_le (by omega) : P.drop k = []), (List.drop_eq_nil_of_le (by omega) : Q.drop k = []), pcmp])
    apply AWp.seq; apply AWp.region; refine Wq Qz.cmpF ?_; apply AWl.nil; apply AThen.normal; apply AWp.seq; refine AWp.condF (ao rfl) ?_; apply AWp.exit; apply AThen.exit; apply ALoop.exit; apply ABlock.hit; apply AThen.normal; apply AWp.seq; apply AWp.region; refine Wq Qz.assign ?_; apply AWl.nil; apply AThen.normal; apply AWp.ret
    exact Fin.ret (Rets.of1 (ResV.tmp rfl rfl) (D.le.of_eq (by rw [he])))
 ·have he : decide (pcmp P Q = 0) = false := decide_eq_false fun e => hlen (pcmp_length e)
  refine Abs.intro Tryz.func108 rfl (callFunc_run Tryz.func108 (by kernel_rfl) (by kernel_rfl)) rfl fun s0 => ?_
  rw [Tryz.ntmps108]
  apply AWp.seq; apply AWp.region; refine Wq Qz.assign ?_; apply AWl.nil; apply AThen.normal; apply AWp.seq; apply AWp.seq; apply AWp.region; refine Wq Qz.move ?_; refine Wq Qz.lenN ?_; refine Wq Qz.move ?_; refine Wq Qz.lenN ?_; refine Wq Qz.cmpT ?_; apply AWl.nil; apply AThen.normal; refine AWp.condT (ao rfl) ?_; apply AWp.seq; apply AWp.region; refine Wq Qz.assign ?_; apply AWl.nil; apply AThen.normal; apply AWp.ret; apply AThen.ret
  exact Fin.ret (Rets.of1 (ResV.tmp rfl rfl) (D.le.of_eq (by rw [he])))
theorem PSame_abs (P Q : List Tm) (hP : PSz P 1000000000) (hQ : PSz Q 1000000000) (hn : P.length ≤ 1000000) (hm : Q.length ≤ 1000000) : Abs Tryz.prog 43 [polD P, polD Q] (ex (.bool (decide (pcmp P Q = 0)))) := by
 refine Abs.intro Tryz.func43 rfl (callFunc_run Tryz.func43 (by kernel_rfl) (by kernel_rfl)) rfl fun s0 => ?_
 rw [Tryz.ntmps43]
 apply AWp.seq; apply AWp.region; refine Wq Qz.assign ?_; apply AWl.nil; apply AThen.normal; apply AWp.seq; apply AWp.region; refine Wq Qz.move ?_; refine Wq Qz.move ?_; refine Wq (Qz.call (EqualF_abs P Q hP hQ hn hm)) ?_; refine Wq Qz.assign ?_; apply AWl.nil; apply AThen.normal; apply AWp.ret
 exact Fin.ret (Rets.of1 (ResV.tmp rfl rfl) (D.le.refl _))
section
variable {P : Program} {hp : List Ow} {arg : Operand → AV} {dd : Option Tmp} {ty : TypeId} {ps : String} {af : Array Edge} {gd : Option (Nat × Bool)}
theorem Qs.eqBoolT {x y : Operand} {T U : TypeId} {a b : Bool} (hx : arg x = .d (ex (.bool a))) (hy : arg y = .d (ex (.bool b))) (hT : P.underlying T = some .bool) (h : (a == b) = true) : Quiet P hp ⟨dd, .binOp .eql T x y U, ty, ps, af, gd⟩ arg (.d (ex (.bool true))) := by
 rw [← h]; exact Qs.eqBool hx hy hT
theorem Qs.neBoolF {x y : Operand} {T U : TypeId} {a b : Bool} (hx : arg x = .d (ex (.bool a))) (hy : arg y = .d (ex (.bool b))) (hT : P.underlying T = some .bool) (h : (a == b) = true) : Quiet P hp ⟨dd, .binOp .neq T x y U, ty, ps, af, gd⟩ arg (.d (ex (.bool false))) := by
 have := Qs.neBool (hp := hp) (dd := dd) (ty := ty) (ps := ps) (af := af) (gd := gd) (U := U) hx hy hT
 rwa [h] at this
end
set_option maxHeartbeats 8000000 in
theorem sorts_abs (T : Nat) (X : List (Nat → Int)) (U : Nat) (Y : List (Nat → Int)) (V : Nat) (Z : List (Nat → Int)) (hX : Raw8 X) (hY : Raw8 Y) (hZ : Raw8 Z) : Abs Tryz.prog 8 [agD [r5D T X], agD [r5D U Y], agD [r5D V Z]] (ex (.bool true)) := by
 have hp : PB (madeP X 2 2 3) 3 9 2 := madeP_pb X 2 3 (by omega)
 have hq : PB (madeP Y 2 2 3) 3 9 2 := madeP_pb Y 2 3 (by omega)
 have hr : PB (madeP Z 2 2 3) 3 9 2 := madeP_pb Z 2 3 (by omega)
 have cp := RMade_abs T X 2 3 2 hX (by omega) (by omega) (by omega) (by omega)
 have cq := RMade_abs U Y 2 3 2 hY (by omega) (by omega) (by omega) (by omega)
 have cr := RMade_abs V Z 2 3 2 hZ (by omega) (by omega) (by omega) (by omega)
 generalize madeP X 2 2 3 = p at hp cp
 generalize madeP Y 2 2 3 = q at hq cq
 generalize madeP Z 2 2 3 = r at hr cr
 have cmp : ∀ {P Q : List Tm}, PB P 3 9 2 → PB Q 3 9 2 → Abs Tryz.prog 42 [polD P, polD Q] (ex (.int .i64 (pcmp P Q))) := fun h k => PCmp_abs _ _ (h.sz.mono (by omega)) (k.sz.mono (by omega)) (by have := h.len; omega) (by have := k.len; omega)
 have csame := PSame_abs p q (hp.sz.mono (by omega)) (hq.sz.mono (by omega)) (by have := hp.len; omega) (by have := hq.len; omega)
 have crs := RSame_abs p q
 have h0 : PB [] 3 9 2 := PB.nil
 have cqp := cmp hq hp
 have cpp := cmp hp hp
 rw [pcmp_neg p q] at cqp
 rw [pcmp_zero.2 (SameL.refl p)] at cpp
 have v1 := pcmp_val p q
 have v2 := pcmp_val q r
 have v3 := pcmp_val p r
 have v4 := pcmp_val [] p
 have tr := pcmp_trans (P := p) (Q := q) (R := r)
 have e1 : ((pcmp p q == 0) == sameB p q) = true := by
  by_cases h : SameL p q
  ·rw [sameB_true.2 h, pcmp_zero.2 h]; rfl
  ·rw [sameB_false h, show (pcmp p q == 0) = false from beq_false_of_ne fun e => h (pcmp_zero.1 e)]; rfl
 have e2 : (decide (pcmp p q = 0) == (pcmp p q == 0)) = true := by
  by_cases h : pcmp p q = 0
  ·rw [h]; rfl
  ·rw [decide_eq_false h, show (pcmp p q == 0) = false from beq_false_of_ne h]; rfl
 have e3 : ((pcmp [] p == 0) == ((p.length : Int) == 0)) = true := by
  cases p with
  | nil => rfl
  | cons s P =>
   have : ((s :: P).length : Int) ≠ 0 := by simp; omega
   rw [show ((((s :: P).length : Nat) : Int) == 0) = false from beq_false_of_ne this]
   rfl
 have n4 : pcmp [] p ≤ 0 := by cases p <;> simp [pcmp]
 rcases (show 0 < pcmp p q ∨ (pcmp p q = 0 ∧ 0 < pcmp q r) ∨ (pcmp p q < 0 ∧ 0 < pcmp q r) ∨ (pcmp p q = 0 ∧ pcmp q r ≤ 0 ∧ pcmp p r ≤ 0) ∨ (pcmp p q < 0 ∧ pcmp q r ≤ 0 ∧ pcmp p r < 0) by omega) with w | ⟨w, w'⟩ | ⟨w, w'⟩ | ⟨w, w', w''⟩ | ⟨w, w', w''⟩
 ·first | (have z : (pcmp p q == 0) = true := beq_iff_eq.2 w; rw [z] at e1 e2) | (have z : (pcmp p q == 0) = false := beq_false_of_ne (by omega); rw [z] at e1 e2)
  refine Abs.intro Tryz.func8 rfl (callFunc_run Tryz.func8 (by kernel_rfl) (by kernel_rfl)) rfl fun s0 => ?_
  rw [Tryz.ntmps8]
  apply AWp.seq; apply AWp.region; refine AWs.bx (ao rfl) rfl rfl rfl rfl ?_; refine AWs.bx (ao rfl) rfl rfl rfl rfl ?_; refine AWs.bx (ao rfl) rfl rfl rfl rfl ?_; refine Wq Qz.assign ?_; apply AWl.nil; apply AThen.normal; apply AWp.seq; apply AWp.region; refine Wq (Qz.call (sanity_abs)) ?_; refine Wq Qz.assign ?_; apply AWl.nil; apply AThen.normal; apply AWp.seq; apply AWp.seq; apply AWp.region; refine Wq Qz.move ?_; refine Wq Qz.not ?_; apply AWl.nil; apply AThen.normal; refine AWp.condF (ao rfl) ?_; apply AWp.skip; apply AThen.normal; apply AWp.seq
  refine AWp.dr' (DrawOk.self (by kernel_rfl)) [[], [(17, 0)], [], [(19, 2)], [], [(21, 4)]] [[], [0], [], [0, 1, 2], [], [0, 1, 2, 3, 4]] rfl (by kernel_rfl) (by kernel_rfl) (by kernel_rfl) ?_
  refine Xq Qz.ldD ?_; refine Xq (Qz.call (cp)) ?_; refine Xq Qz.ldD ?_; refine Xq (Qz.call (cq)) ?_; refine Xq Qz.ldD ?_; refine Xq (Qz.call (cr)) ?_; refine ⟨_, rfl, ?_⟩
  refine Wq Qz.assign ?_; refine Wq Qz.assign ?_; refine Wq Qz.assign ?_; apply AWl.nil; apply AThen.normal; apply AWp.seq; apply AWp.region; refine Wq Qz.move ?_; refine Wq Qz.move ?_; refine Wq (Qz.call (cmp hp hq)) ?_; refine Wq Qz.move ?_; refine Wq Qz.move ?_; refine Wq (Qz.call (cmp hq hr)) ?_; refine Wq Qz.move ?_; refine Wq Qz.move ?_; refine Wq (Qz.call (cmp hp hr)) ?_; refine Wq Qz.assign ?_; refine Wq Qz.assign ?_; refine Wq Qz.assign ?_; apply AWl.nil; apply AThen.normal; apply AWp.seq; apply AWp.seq; apply AWp.region; refine Wq Qz.move ?_; refine Wq Qz.cmpF ?_; refine Wq Qz.move ?_; refine Wg Qz.move ?_; refine Wg Qz.cmpF ?_; refine Wq Qz.pickF ?_; refine Wq Qz.move ?_; refine Wg Qz.move ?_; refine Wg Qz.move ?_; refine Wg Qz.move ?_; refine Wg (Qz.call (cqp)) ?_; refine Wg Qz.neg ?_; refine Wg Qz.cmpF ?_; refine Wq Qz.pickF ?_; refine Wq Qz.move ?_; refine Wg Qz.move ?_; refine Wg Qz.cmpF ?_; refine Wg Qz.move ?_; refine Wg Qz.move ?_; refine Wg (Qz.call (crs)) ?_; (refine AWs.qG rfl rfl rfl rfl rfl ?_; refine ⟨_, Qs.neBoolF (ao rfl) (ao rfl) (by kernel_rfl) (by assumption), ?_⟩); refine Wq Qz.pickF ?_; refine Wq Qz.move ?_; refine Wg Qz.move ?_; refine Wg Qz.move ?_; refine Wg (Qz.call (csame)) ?_; refine Wg Qz.move ?_; refine Wg Qz.cmpF ?_; (refine AWs.qG rfl rfl rfl rfl rfl ?_; refine ⟨_, Qs.neBoolF (ao rfl) (ao rfl) (by kernel_rfl) (by assumption), ?_⟩); refine Wq Qz.pickF ?_; apply AWl.nil; apply AThen.normal; refine AWp.condF (ao rfl) ?_; apply AWp.skip; apply AThen.normal; apply AWp.seq; apply AWp.seq; apply AWp.region; refine Wq Qz.move ?_; refine Wq Qz.cmpF ?_; refine Wq Qz.move ?_; refine Ws ?_; refine Ws ?_; refine Wq Qz.pickF ?_; refine Wq Qz.move ?_; refine Ws ?_; refine Ws ?_; refine Wq Qz.pickF ?_; refine Wq Qz.move ?_; refine Wg Qz.move ?_; refine Wg Qz.cmpF ?_; refine Wg Qz.move ?_; refine Ws ?_; refine Ws ?_; refine Wg Qz.pickF ?_; refine Wg Qz.move ?_; refine Ws ?_; refine Ws ?_; refine Wg Qz.pickF ?_; refine Wq Qz.pickF ?_; apply AWl.nil; apply AThen.normal; refine AWp.condF (ao rfl) ?_; apply AWp.skip; apply AThen.normal; apply AWp.seq; apply AWp.region; refine Wq Qz.move ?_; refine Wq Qz.move ?_; refine Wq (Qz.call (cpp)) ?_; refine Wq Qz.cmpT ?_; refine Wq Qz.move ?_; refine Wg Qz.move ?_; refine Wg (Qz.call (cmp h0 hp)) ?_; refine Wg Qz.cmpT ?_; refine Wq Qz.pickT ?_; refine Wq Qz.move ?_; refine Wg Qz.move ?_; refine Wg (Qz.call (cmp h0 hp)) ?_; refine Wg Qz.cmp ?_; refine Wg Qz.move ?_; refine Wg Qz.lenN ?_; refine Wg Qz.cmp ?_; (refine AWs.qG rfl rfl rfl rfl rfl ?_; refine ⟨_, Qs.eqBoolT (ao rfl) (ao rfl) (by kernel_rfl) (by assumption), ?_⟩); refine Wq Qz.pickT ?_; refine Wq Qz.move ?_; refine Wg Qz.move ?_; refine Wq Qz.pickT ?_; refine Wq Qz.assign ?_; apply AWl.nil; apply AThen.normal; apply AWp.ret
  exact Fin.ret (Rets.of1 (ResV.tmp rfl rfl) (D.le.refl _))
 ·first | (have z : (pcmp p q == 0) = true := beq_iff_eq.2 w; rw [z] at e1 e2) | (have z : (pcmp p q == 0) = false := beq_false_of_ne (by omega); rw [z] at e1 e2)
  refine Abs.intro Tryz.func8 rfl (callFunc_run Tryz.func8 (by kernel_rfl) (by kernel_rfl)) rfl fun s0 => ?_
  rw [Tryz.ntmps8]
  apply AWp.seq; apply AWp.region; refine AWs.bx (ao rfl) rfl rfl rfl rfl ?_; refine AWs.bx (ao rfl) rfl rfl rfl rfl ?_; refine AWs.bx (ao rfl) rfl rfl rfl rfl ?_; refine Wq Qz.assign ?_; apply AWl.nil; apply AThen.normal; apply AWp.seq; apply AWp.region; refine Wq (Qz.call (sanity_abs)) ?_; refine Wq Qz.assign ?_; apply AWl.nil; apply AThen.normal; apply AWp.seq; apply AWp.seq; apply AWp.region; refine Wq Qz.move ?_; refine Wq Qz.not ?_; apply AWl.nil; apply AThen.normal; refine AWp.condF (ao rfl) ?_; apply AWp.skip; apply AThen.normal; apply AWp.seq
  refine AWp.dr' (DrawOk.self (by kernel_rfl)) [[], [(17, 0)], [], [(19, 2)], [], [(21, 4)]] [[], [0], [], [0, 1, 2], [], [0, 1, 2, 3, 4]] rfl (by kernel_rfl) (by kernel_rfl) (by kernel_rfl) ?_
  refine Xq Qz.ldD ?_; refine Xq (Qz.call (cp)) ?_; refine Xq Qz.ldD ?_; refine Xq (Qz.call (cq)) ?_; refine Xq Qz.ldD ?_; refine Xq (Qz.call (cr)) ?_; refine ⟨_, rfl, ?_⟩
  refine Wq Qz.assign ?_; refine Wq Qz.assign ?_; refine Wq Qz.assign ?_; apply AWl.nil; apply AThen.normal; apply AWp.seq; apply AWp.region; refine Wq Qz.move ?_; refine Wq Qz.move ?_; refine Wq (Qz.call (cmp hp hq)) ?_; refine Wq Qz.move ?_; refine Wq Qz.move ?_; refine Wq (Qz.call (cmp hq hr)) ?_; refine Wq Qz.move ?_; refine Wq Qz.move ?_; refine Wq (Qz.call (cmp hp hr)) ?_; refine Wq Qz.assign ?_; refine Wq Qz.assign ?_; refine Wq Qz.assign ?_; apply AWl.nil; apply AThen.normal; apply AWp.seq; apply AWp.seq; apply AWp.region; refine Wq Qz.move ?_; refine Wq Qz.cmpF ?_; refine Wq Qz.move ?_; refine Wg Qz.move ?_; refine Wg Qz.cmpF ?_; refine Wq Qz.pickF ?_; refine Wq Qz.move ?_; refine Wg Qz.move ?_; refine Wg Qz.move ?_; refine Wg Qz.move ?_; refine Wg (Qz.call (cqp)) ?_; refine Wg Qz.neg ?_; refine Wg Qz.cmpF ?_; refine Wq Qz.pickF ?_; refine Wq Qz.move ?_; refine Wg Qz.move ?_; refine Wg Qz.cmpT ?_; refine Wg Qz.move ?_; refine Wg Qz.move ?_; refine Wg (Qz.call (crs)) ?_; (refine AWs.qG rfl rfl rfl rfl rfl ?_; refine ⟨_, Qs.neBoolF (ao rfl) (ao rfl) (by kernel_rfl) (by assumption), ?_⟩); refine Wq Qz.pickF ?_; refine Wq Qz.move ?_; refine Wg Qz.move ?_; refine Wg Qz.move ?_; refine Wg (Qz.call (csame)) ?_; refine Wg Qz.move ?_; refine Wg Qz.cmpT ?_; (refine AWs.qG rfl rfl rfl rfl rfl ?_; refine ⟨_, Qs.neBoolF (ao rfl) (ao rfl) (by kernel_rfl) (by assumption), ?_⟩); refine Wq Qz.pickF ?_; apply AWl.nil; apply AThen.normal; refine AWp.condF (ao rfl) ?_; apply AWp.skip; apply AThen.normal; apply AWp.seq; apply AWp.seq; apply AWp.region; refine Wq Qz.move ?_; refine Wq Qz.cmpT ?_; refine Wq Qz.move ?_; refine Wg Qz.move ?_; refine Wg Qz.cmpF ?_; refine Wq Qz.pickT ?_; refine Wq Qz.move ?_; refine Ws ?_; refine Ws ?_; refine Wq Qz.pickF ?_; refine Wq Qz.move ?_; refine Wg Qz.move ?_; refine Wg Qz.cmpF ?_; refine Wg Qz.move ?_; refine Ws ?_; refine Ws ?_; refine Wg Qz.pickF ?_; refine Wg Qz.move ?_; refine Ws ?_; refine Ws ?_; refine Wg Qz.pickF ?_; refine Wq Qz.pickF ?_; apply AWl.nil; apply AThen.normal; refine AWp.condF (ao rfl) ?_; apply AWp.skip; apply AThen.normal; apply AWp.seq; apply AWp.region; refine Wq Qz.move ?_; refine Wq Qz.move ?_; refine Wq (Qz.call (cpp)) ?_; refine Wq Qz.cmpT ?_; refine Wq Qz.move ?_; refine Wg Qz.move ?_; refine Wg (Qz.call (cmp h0 hp)) ?_; refine Wg Qz.cmpT ?_; refine Wq Qz.pickT ?_; refine Wq Qz.move ?_; refine Wg Qz.move ?_; refine Wg (Qz.call (cmp h0 hp)) ?_; refine Wg Qz.cmp ?_; refine Wg Qz.move ?_; refine Wg Qz.lenN ?_; refine Wg Qz.cmp ?_; (refine AWs.qG rfl rfl rfl rfl rfl ?_; refine ⟨_, Qs.eqBoolT (ao rfl) (ao rfl) (by kernel_rfl) (by assumption), ?_⟩); refine Wq Qz.pickT ?_; refine Wq Qz.move ?_; refine Wg Qz.move ?_; refine Wq Qz.pickT ?_; refine Wq Qz.assign ?_; apply AWl.nil; apply AThen.normal; apply AWp.ret
  exact Fin.ret (Rets.of1 (ResV.tmp rfl rfl) (D.le.refl _))
 ·first | (have z : (pcmp p q == 0) = true := beq_iff_eq.2 w; rw [z] at e1 e2) | (have z : (pcmp p q == 0) = false := beq_false_of_ne (by omega); rw [z] at e1 e2)
  refine Abs.intro Tryz.func8 rfl (callFunc_run Tryz.func8 (by kernel_rfl) (by kernel_rfl)) rfl fun s0 => ?_
  rw [Tryz.ntmps8]
  apply AWp.seq; apply AWp.region; refine AWs.bx (ao rfl) rfl rfl rfl rfl ?_; refine AWs.bx (ao rfl) rfl rfl rfl rfl ?_; refine AWs.bx (ao rfl) rfl rfl rfl rfl ?_; refine Wq Qz.assign ?_; apply AWl.nil; apply AThen.normal; apply AWp.seq; apply AWp.region; refine Wq (Qz.call (sanity_abs)) ?_; refine Wq Qz.assign ?_; apply AWl.nil; apply AThen.normal; apply AWp.seq; apply AWp.seq; apply AWp.region; refine Wq Qz.move ?_; refine Wq Qz.not ?_; apply AWl.nil; apply AThen.normal; refine AWp.condF (ao rfl) ?_; apply AWp.skip; apply AThen.normal; apply AWp.seq
  refine AWp.dr' (DrawOk.self (by kernel_rfl)) [[], [(17, 0)], [], [(19, 2)], [], [(21, 4)]] [[], [0], [], [0, 1, 2], [], [0, 1, 2, 3, 4]] rfl (by kernel_rfl) (by kernel_rfl) (by kernel_rfl) ?_
  refine Xq Qz.ldD ?_; refine Xq (Qz.call (cp)) ?_; refine Xq Qz.ldD ?_; refine Xq (Qz.call (cq)) ?_; refine Xq Qz.ldD ?_; refine Xq (Qz.call (cr)) ?_; refine ⟨_, rfl, ?_⟩
  refine Wq Qz.assign ?_; refine Wq Qz.assign ?_; refine Wq Qz.assign ?_; apply AWl.nil; apply AThen.normal; apply AWp.seq; apply AWp.region; refine Wq Qz.move ?_; refine Wq Qz.move ?_; refine Wq (Qz.call (cmp hp hq)) ?_; refine Wq Qz.move ?_; refine Wq Qz.move ?_; refine Wq (Qz.call (cmp hq hr)) ?_; refine Wq Qz.move ?_; refine Wq Qz.move ?_; refine Wq (Qz.call (cmp hp hr)) ?_; refine Wq Qz.assign ?_; refine Wq Qz.assign ?_; refine Wq Qz.assign ?_; apply AWl.nil; apply AThen.normal; apply AWp.seq; apply AWp.seq; apply AWp.region; refine Wq Qz.move ?_; refine Wq Qz.cmpF ?_; refine Wq Qz.move ?_; refine Wg Qz.move ?_; refine Wg Qz.cmpF ?_; refine Wq Qz.pickF ?_; refine Wq Qz.move ?_; refine Wg Qz.move ?_; refine Wg Qz.move ?_; refine Wg Qz.move ?_; refine Wg (Qz.call (cqp)) ?_; refine Wg Qz.neg ?_; refine Wg Qz.cmpF ?_; refine Wq Qz.pickF ?_; refine Wq Qz.move ?_; refine Wg Qz.move ?_; refine Wg Qz.cmpF ?_; refine Wg Qz.move ?_; refine Wg Qz.move ?_; refine Wg (Qz.call (crs)) ?_; (refine AWs.qG rfl rfl rfl rfl rfl ?_; refine ⟨_, Qs.neBoolF (ao rfl) (ao rfl) (by kernel_rfl) (by assumption), ?_⟩); refine Wq Qz.pickF ?_; refine Wq Qz.move ?_; refine Wg Qz.move ?_; refine Wg Qz.move ?_; refine Wg (Qz.call (csame)) ?_; refine Wg Qz.move ?_; refine Wg Qz.cmpF ?_; (refine AWs.qG rfl rfl rfl rfl rfl ?_; refine ⟨_, Qs.neBoolF (ao rfl) (ao rfl) (by kernel_rfl) (by assumption), ?_⟩); refine Wq Qz.pickF ?_; apply AWl.nil; apply AThen.normal; refine AWp.condF (ao rfl) ?_; apply AWp.skip; apply AThen.normal; apply AWp.seq; apply AWp.seq; apply AWp.region; refine Wq Qz.move ?_; refine Wq Qz.cmpT ?_; refine Wq Qz.move ?_; refine Wg Qz.move ?_; refine Wg Qz.cmpF ?_; refine Wq Qz.pickT ?_; refine Wq Qz.move ?_; refine Ws ?_; refine Ws ?_; refine Wq Qz.pickF ?_; refine Wq Qz.move ?_; refine Wg Qz.move ?_; refine Wg Qz.cmpT ?_; refine Wg Qz.move ?_; refine Wg Qz.move ?_; refine Wg Qz.cmpF ?_; refine Wg Qz.pickT ?_; refine Wg Qz.move ?_; refine Ws ?_; refine Ws ?_; refine Wg Qz.pickF ?_; refine Wq Qz.pickF ?_; apply AWl.nil; apply AThen.normal; refine AWp.condF (ao rfl) ?_; apply AWp.skip; apply AThen.normal; apply AWp.seq; apply AWp.region; refine Wq Qz.move ?_; refine Wq Qz.move ?_; refine Wq (Qz.call (cpp)) ?_; refine Wq Qz.cmpT ?_; refine Wq Qz.move ?_; refine Wg Qz.move ?_; refine Wg (Qz.call (cmp h0 hp)) ?_; refine Wg Qz.cmpT ?_; refine Wq Qz.pickT ?_; refine Wq Qz.move ?_; refine Wg Qz.move ?_; refine Wg (Qz.call (cmp h0 hp)) ?_; refine Wg Qz.cmp ?_; refine Wg Qz.move ?_; refine Wg Qz.lenN ?_; refine Wg Qz.cmp ?_; (refine AWs.qG rfl rfl rfl rfl rfl ?_; refine ⟨_, Qs.eqBoolT (ao rfl) (ao rfl) (by kernel_rfl) (by assumption), ?_⟩); refine Wq Qz.pickT ?_; refine Wq Qz.move ?_; refine Wg Qz.move ?_; refine Wq Qz.pickT ?_; refine Wq Qz.assign ?_; apply AWl.nil; apply AThen.normal; apply AWp.ret
  exact Fin.ret (Rets.of1 (ResV.tmp rfl rfl) (D.le.refl _))
 ·first | (have z : (pcmp p q == 0) = true := beq_iff_eq.2 w; rw [z] at e1 e2) | (have z : (pcmp p q == 0) = false := beq_false_of_ne (by omega); rw [z] at e1 e2)
  refine Abs.intro Tryz.func8 rfl (callFunc_run Tryz.func8 (by kernel_rfl) (by kernel_rfl)) rfl fun s0 => ?_
  rw [Tryz.ntmps8]
  apply AWp.seq; apply AWp.region; refine AWs.bx (ao rfl) rfl rfl rfl rfl ?_; refine AWs.bx (ao rfl) rfl rfl rfl rfl ?_; refine AWs.bx (ao rfl) rfl rfl rfl rfl ?_; refine Wq Qz.assign ?_; apply AWl.nil; apply AThen.normal; apply AWp.seq; apply AWp.region; refine Wq (Qz.call (sanity_abs)) ?_; refine Wq Qz.assign ?_; apply AWl.nil; apply AThen.normal; apply AWp.seq; apply AWp.seq; apply AWp.region; refine Wq Qz.move ?_; refine Wq Qz.not ?_; apply AWl.nil; apply AThen.normal; refine AWp.condF (ao rfl) ?_; apply AWp.skip; apply AThen.normal; apply AWp.seq
  refine AWp.dr' (DrawOk.self (by kernel_rfl)) [[], [(17, 0)], [], [(19, 2)], [], [(21, 4)]] [[], [0], [], [0, 1, 2], [], [0, 1, 2, 3, 4]] rfl (by kernel_rfl) (by kernel_rfl) (by kernel_rfl) ?_
  refine Xq Qz.ldD ?_; refine Xq (Qz.call (cp)) ?_; refine Xq Qz.ldD ?_; refine Xq (Qz.call (cq)) ?_; refine Xq Qz.ldD ?_; refine Xq (Qz.call (cr)) ?_; refine ⟨_, rfl, ?_⟩
  refine Wq Qz.assign ?_; refine Wq Qz.assign ?_; refine Wq Qz.assign ?_; apply AWl.nil; apply AThen.normal; apply AWp.seq; apply AWp.region; refine Wq Qz.move ?_; refine Wq Qz.move ?_; refine Wq (Qz.call (cmp hp hq)) ?_; refine Wq Qz.move ?_; refine Wq Qz.move ?_; refine Wq (Qz.call (cmp hq hr)) ?_; refine Wq Qz.move ?_; refine Wq Qz.move ?_; refine Wq (Qz.call (cmp hp hr)) ?_; refine Wq Qz.assign ?_; refine Wq Qz.assign ?_; refine Wq Qz.assign ?_; apply AWl.nil; apply AThen.normal; apply AWp.seq; apply AWp.seq; apply AWp.region; refine Wq Qz.move ?_; refine Wq Qz.cmpF ?_; refine Wq Qz.move ?_; refine Wg Qz.move ?_; refine Wg Qz.cmpF ?_; refine Wq Qz.pickF ?_; refine Wq Qz.move ?_; refine Wg Qz.move ?_; refine Wg Qz.move ?_; refine Wg Qz.move ?_; refine Wg (Qz.call (cqp)) ?_; refine Wg Qz.neg ?_; refine Wg Qz.cmpF ?_; refine Wq Qz.pickF ?_; refine Wq Qz.move ?_; refine Wg Qz.move ?_; refine Wg Qz.cmpT ?_; refine Wg Qz.move ?_; refine Wg Qz.move ?_; refine Wg (Qz.call (crs)) ?_; (refine AWs.qG rfl rfl rfl rfl rfl ?_; refine ⟨_, Qs.neBoolF (ao rfl) (ao rfl) (by kernel_rfl) (by assumption), ?_⟩); refine Wq Qz.pickF ?_; refine Wq Qz.move ?_; refine Wg Qz.move ?_; refine Wg Qz.move ?_; refine Wg (Qz.call (csame)) ?_; refine Wg Qz.move ?_; refine Wg Qz.cmpT ?_; (refine AWs.qG rfl rfl rfl rfl rfl ?_; refine ⟨_, Qs.neBoolF (ao rfl) (ao rfl) (by kernel_rfl) (by assumption), ?_⟩); refine Wq Qz.pickF ?_; apply AWl.nil; apply AThen.normal; refine AWp.condF (ao rfl) ?_; apply AWp.skip; apply AThen.normal; apply AWp.seq; apply AWp.seq; apply AWp.region; refine Wq Qz.move ?_; refine Wq Qz.cmpT ?_; refine Wq Qz.move ?_; refine Wg Qz.move ?_; refine Wg Qz.cmpT ?_; refine Wq Qz.pickT ?_; refine Wq Qz.move ?_; refine Wg Qz.move ?_; refine Wg Qz.cmpF ?_; refine Wq Qz.pickT ?_; refine Wq Qz.move ?_; refine Wg Qz.move ?_; refine Wg Qz.cmpF ?_; refine Wg Qz.move ?_; refine Ws ?_; refine Ws ?_; refine Wg Qz.pickF ?_; refine Wg Qz.move ?_; refine Ws ?_; refine Ws ?_; refine Wg Qz.pickF ?_; refine Wq Qz.pickF ?_; apply AWl.nil; apply AThen.normal; refine AWp.condF (ao rfl) ?_; apply AWp.skip; apply AThen.normal; apply AWp.seq; apply AWp.region; refine Wq Qz.move ?_; refine Wq Qz.move ?_; refine Wq (Qz.call (cpp)) ?_; refine Wq Qz.cmpT ?_; refine Wq Qz.move ?_; refine Wg Qz.move ?_; refine Wg (Qz.call (cmp h0 hp)) ?_; refine Wg Qz.cmpT ?_; refine Wq Qz.pickT ?_; refine Wq Qz.move ?_; refine Wg Qz.move ?_; refine Wg (Qz.call (cmp h0 hp)) ?_; refine Wg Qz.cmp ?_; refine Wg Qz.move ?_; refine Wg Qz.lenN ?_; refine Wg Qz.cmp ?_; (refine AWs.qG rfl rfl rfl rfl rfl ?_; refine ⟨_, Qs.eqBoolT (ao rfl) (ao rfl) (by kernel_rfl) (by assumption), ?_⟩); refine Wq Qz.pickT ?_; refine Wq Qz.move ?_; refine Wg Qz.move ?_; refine Wq Qz.pickT ?_; refine Wq Qz.assign ?_; apply AWl.nil; apply AThen.normal; apply AWp.ret
  exact Fin.ret (Rets.of1 (ResV.tmp rfl rfl) (D.le.refl _))
 ·first | (have z : (pcmp p q == 0) = true := beq_iff_eq.2 w; rw [z] at e1 e2) | (have z : (pcmp p q == 0) = false := beq_false_of_ne (by omega); rw [z] at e1 e2)
  refine Abs.intro Tryz.func8 rfl (callFunc_run Tryz.func8 (by kernel_rfl) (by kernel_rfl)) rfl fun s0 => ?_
  rw [Tryz.ntmps8]
  apply AWp.seq; apply AWp.region; refine AWs.bx (ao rfl) rfl rfl rfl rfl ?_; refine AWs.bx (ao rfl) rfl rfl rfl rfl ?_; refine AWs.bx (ao rfl) rfl rfl rfl rfl ?_; refine Wq Qz.assign ?_; apply AWl.nil; apply AThen.normal; apply AWp.seq; apply AWp.region; refine Wq (Qz.call (sanity_abs)) ?_; refine Wq Qz.assign ?_; apply AWl.nil; apply AThen.normal; apply AWp.seq; apply AWp.seq; apply AWp.region; refine Wq Qz.move ?_; refine Wq Qz.not ?_; apply AWl.nil; apply AThen.normal; refine AWp.condF (ao rfl) ?_; apply AWp.skip; apply AThen.normal; apply AWp.seq
  refine AWp.dr' (DrawOk.self (by kernel_rfl)) [[], [(17, 0)], [], [(19, 2)], [], [(21, 4)]] [[], [0], [], [0, 1, 2], [], [0, 1, 2, 3, 4]] rfl (by kernel_rfl) (by kernel_rfl) (by kernel_rfl) ?_
  refine Xq Qz.ldD ?_; refine Xq (Qz.call (cp)) ?_; refine Xq Qz.ldD ?_; refine Xq (Qz.call (cq)) ?_; refine Xq Qz.ldD ?_; refine Xq (Qz.call (cr)) ?_; refine ⟨_, rfl, ?_⟩
  refine Wq Qz.assign ?_; refine Wq Qz.assign ?_; refine Wq Qz.assign ?_; apply AWl.nil; apply AThen.normal; apply AWp.seq; apply AWp.region; refine Wq Qz.move ?_; refine Wq Qz.move ?_; refine Wq (Qz.call (cmp hp hq)) ?_; refine Wq Qz.move ?_; refine Wq Qz.move ?_; refine Wq (Qz.call (cmp hq hr)) ?_; refine Wq Qz.move ?_; refine Wq Qz.move ?_; refine Wq (Qz.call (cmp hp hr)) ?_; refine Wq Qz.assign ?_; refine Wq Qz.assign ?_; refine Wq Qz.assign ?_; apply AWl.nil; apply AThen.normal; apply AWp.seq; apply AWp.seq; apply AWp.region; refine Wq Qz.move ?_; refine Wq Qz.cmpF ?_; refine Wq Qz.move ?_; refine Wg Qz.move ?_; refine Wg Qz.cmpF ?_; refine Wq Qz.pickF ?_; refine Wq Qz.move ?_; refine Wg Qz.move ?_; refine Wg Qz.move ?_; refine Wg Qz.move ?_; refine Wg (Qz.call (cqp)) ?_; refine Wg Qz.neg ?_; refine Wg Qz.cmpF ?_; refine Wq Qz.pickF ?_; refine Wq Qz.move ?_; refine Wg Qz.move ?_; refine Wg Qz.cmpF ?_; refine Wg Qz.move ?_; refine Wg Qz.move ?_; refine Wg (Qz.call (crs)) ?_; (refine AWs.qG rfl rfl rfl rfl rfl ?_; refine ⟨_, Qs.neBoolF (ao rfl) (ao rfl) (by kernel_rfl) (by assumption), ?_⟩); refine Wq Qz.pickF ?_; refine Wq Qz.move ?_; refine Wg Qz.move ?_; refine Wg Qz.move ?_; refine Wg (Qz.call (csame)) ?_; refine Wg Qz.move ?_; refine Wg Qz.cmpF ?_; (refine AWs.qG rfl rfl rfl rfl rfl ?_; refine ⟨_, Qs.neBoolF (ao rfl) (ao rfl) (by kernel_rfl) (by assumption), ?_⟩); refine Wq Qz.pickF ?_; apply AWl.nil; apply AThen.normal; refine AWp.condF (ao rfl) ?_; apply AWp.skip; apply AThen.normal; apply AWp.seq; apply AWp.seq; apply AWp.region; refine Wq Qz.move ?_; refine Wq Qz.cmpT ?_; refine Wq Qz.move ?_; refine Wg Qz.move ?_; refine Wg Qz.cmpT ?_; refine Wq Qz.pickT ?_; refine Wq Qz.move ?_; refine Wg Qz.move ?_; refine Wg Qz.cmpF ?_; refine Wq Qz.pickT ?_; refine Wq Qz.move ?_; refine Wg Qz.move ?_; refine Wg Qz.cmpT ?_; refine Wg Qz.move ?_; refine Wg Qz.move ?_; refine Wg Qz.cmpT ?_; refine Wg Qz.pickT ?_; refine Wg Qz.move ?_; refine Wg Qz.move ?_; refine Wg Qz.cmpF ?_; refine Wg Qz.pickT ?_; refine Wq Qz.pickF ?_; apply AWl.nil; apply AThen.normal; refine AWp.condF (ao rfl) ?_; apply AWp.skip; apply AThen.normal; apply AWp.seq; apply AWp.region; refine Wq Qz.move ?_; refine Wq Qz.move ?_; refine Wq (Qz.call (cpp)) ?_; refine Wq Qz.cmpT ?_; refine Wq Qz.move ?_; refine Wg Qz.move ?_; refine Wg (Qz.call (cmp h0 hp)) ?_; refine Wg Qz.cmpT ?_; refine Wq Qz.pickT ?_; refine Wq Qz.move ?_; refine Wg Qz.move ?_; refine Wg (Qz.call (cmp h0 hp)) ?_; refine Wg Qz.cmp ?_; refine Wg Qz.move ?_; refine Wg Qz.lenN ?_; refine Wg Qz.cmp ?_; (refine AWs.qG rfl rfl rfl rfl rfl ?_; refine ⟨_, Qs.eqBoolT (ao rfl) (ao rfl) (by kernel_rfl) (by assumption), ?_⟩); refine Wq Qz.pickT ?_; refine Wq Qz.move ?_; refine Wg Qz.move ?_; refine Wq Qz.pickT ?_; refine Wq Qz.assign ?_; apply AWl.nil; apply AThen.normal; apply AWp.ret
  exact Fin.ret (Rets.of1 (ResV.tmp rfl rfl) (D.le.refl _))
end Go.Proofs.YteicdddphdomkaaGreat
