/-
  Part 18 of the proof that polynomialRing_holds holds; the statement is the last theorem of the last part. No condition.
-/
import Derived.Test.YteicdddphdomkaaGreatRi17
set_option linter.unusedSimpArgs false
set_option linter.unusedVariables false
namespace Go.Proofs.YteicdddphdomkaaGreat
open Go.RowKit
set_option maxRecDepth 100000
theorem mrg_gt {s t : Tm} {P Q : List Tm} (h : lx s.m t.m = 1) : mrg (s :: P) (t :: Q) = s :: mrg P (t :: Q) := by
 rw [mrg, if_pos (show 0 < lx s.m t.m by omega)]
theorem mrg_lt {s t : Tm} {P Q : List Tm} (h : lx s.m t.m = -1) : mrg (s :: P) (t :: Q) = t :: mrg (s :: P) Q := by
 rw [mrg, if_neg (show ¬ 0 < lx s.m t.m by omega), if_pos (show lx s.m t.m < 0 by omega)]
theorem mrg_eq {s t : Tm} {P Q : List Tm} (h : lx s.m t.m = 0) : mrg (s :: P) (t :: Q) = if s.c + t.c = 0 then mrg P Q else ⟨s.c + t.c, s.m⟩ :: mrg P Q := by
 rw [mrg, if_neg (show ¬ 0 < lx s.m t.m by omega), if_neg (show ¬ lx s.m t.m < 0 by omega)]
theorem nil_mrg (Q : List Tm) : mrg [] Q = Q := by rw [mrg]
set_option maxHeartbeats 1000000 in
theorem RAdd_pol (P Q : List Tm) (N M : Nat) (hP : PSz P N) (hQ : PSz Q M) (hNM : N + M + 1 ≤ 4398046511103) (hn : P.length + Q.length ≤ 100000) : Abs Tryz.prog 56 [polD P, polD Q] (polD (mrg P Q)) := by
 refine Abs.intro Tryz.func56 rfl (callFunc_run Tryz.func56 (by kernel_rfl) (by kernel_rfl)) rfl fun s0 => ?_
 rw [Tryz.ntmps56]
 repeat (first | apply AWp.seq | apply AWp.region | (apply Ga.b0; refine AWs.b0 (tab_of rfl) (tab_of rfl) rfl rfl rfl rfl rfl ?_) | (refine AWs.q rfl rfl ?_; (apply Gt.assign; refine ⟨_, Qs.assign (ao rfl), ?_⟩)) | apply AWl.nil | apply AThen.normal | apply AWp.block)
 refine AWp.loop (fun mz σ => ∃ (i k : Nat) (R : List Tm), i ≤ P.length ∧ k ≤ Q.length ∧ R ++ mrg (P.drop i) (Q.drop k) = mrg P Q ∧ R.length ≤ i + k ∧ mz = (P.length - i) + (Q.length - k) ∧ σ = ⟨[(0, .d (polD P)), (1, .d (polD Q)), (5, .own 0), (6, .d (ex (.int .i64 (i : Nat)))), (7, .d (ex (.int .i64 (k : Nat))))], [.row 33 12 (R.map tmC)]⟩) ?le ⟨0, 0, [], by omega, by omega, rfl, by simp, rfl, rfl⟩ ?round
 case le => exact AS.le_of (by repeat (first | exact FrLe.nil | refine FrLe.cons rfl (AVle.d rfl) ?_ | refine FrLe.cons rfl (AVle.own rfl) ?_)) (by repeat (first | exact HpLe.nil | refine HpLe.cons (OwLe.row rfl) ?_))
 case round =>
  rintro mz _ ⟨i, k, R, hi, hk, heq, hl, rfl, rfl⟩
  by_cases hip : i < P.length
  ·have hdP := drop_tAt hip
   by_cases hkq : k < Q.length
   ·have hdQ := drop_tAt hkq
    rw [hdP, hdQ] at heq
    have hs := hP _ (tAt_mem hip)
    have ht := hQ _ (tAt_mem hkq)
    rcases lx_val (tAt P i).m (tAt Q k).m with hc | hc | hc
    ·have hc' : lex8 (tAt P i).m (tAt Q k).m = -1 := by rw [← lx_lex]; exact hc
     repeat (first | apply AWp.seq | apply AWp.region | (refine AWs.q rfl rfl ?_; first | (apply Gt.move; refine ⟨_, Qs.move (ao rfl), ?_⟩) | (apply Gt.len; refine ⟨_, Qs.lenN rfl (tab_of rfl), ?_⟩) | (apply Gt.bin; refine ⟨_, Qs.cmpT rfl (ao rfl) (ao rfl) (by first | (simp only [cmpP, List.length_cons, List.length_nil]; omega) | (simp [cmpP]; done) | (simp [cmpP]; omega)), ?_⟩) | (apply Gt.pick; refine ⟨_, Qs.pickT (ao rfl) (ao rfl), ?_⟩)) | refine AWs.sG rfl rfl rfl rfl rfl ?_ | apply AWl.nil | apply AThen.normal | apply AWp.block | apply AWp.skip | (apply Gc.cond; refine AWp.condT (ao rfl) ?_))
     refine AWp.dr' (DrawOk.self (by kernel_rfl)) [[], [], [(21, 1)], [(20, 0), (22, 2)], [(23, 3)], [], [], [(26, 6)], [(25, 5), (27, 7)], [(28, 8)], [], [], [(30, 10), (31, 11)], [(32, 12)], [(33, 13)], [], [], [(35, 15), (36, 16)], [(37, 17)], [(38, 18)], [(34, 14), (39, 19)], [(40, 20)], [(29, 9), (41, 21)], [(24, 4), (42, 22)]] [[], [], [1], [0, 1, 2], [0, 1, 2, 3], [0, 1, 2, 3, 4], [0, 1, 2, 3, 4], [0, 1, 2, 3, 4, 6], [0, 1, 2, 3, 4, 5, 6, 7], [0, 1, 2, 3, 4, 5, 6, 7, 8], [0, 1, 2, 3, 4, 5, 6, 7, 8, 9], [0, 1, 2, 3, 4, 5, 6, 7, 8, 9], [0, 1, 2, 3, 4, 5, 6, 7, 8, 9, 10, 11], [0, 1, 2, 3, 4, 5, 6, 7, 8, 9, 10, 11, 12], [0, 1, 2, 3, 4, 5, 6, 7, 8, 9, 10, 11, 12, 13], [0, 1, 2, 3, 4, 5, 6, 7, 8, 9], [0, 1, 2, 3, 4, 5, 6, 7, 8, 9], [0, 1, 2, 3, 4, 5, 6, 7, 8, 9, 15, 16], [0, 1, 2, 3, 4, 5, 6, 7, 8, 9, 15, 16, 17], [0, 1, 2, 3, 4, 5, 6, 7, 8, 9, 15, 16, 17, 18], [0, 1, 2, 3, 4, 5, 6, 7, 8, 9, 10, 11, 12, 13, 14, 15, 16, 17, 18, 19], [0, 1, 2, 3, 4, 5, 6, 7, 8, 9, 10, 11, 12, 13, 14, 15, 16, 17, 18, 19, 20], [0, 1, 2, 3, 4, 5, 6, 7, 8, 9, 10, 11, 12, 13, 14, 15, 16, 17, 18, 19, 20, 21], [0, 1, 2, 3, 4, 5, 6, 7, 8, 9, 10, 11, 12, 13, 14, 15, 16, 17, 18, 19, 20, 21, 22]] rfl (by kernel_rfl) (by kernel_rfl) (by kernel_rfl) ?_
     repeat (first | refine ⟨_, rfl, ?_⟩ | (apply Gh.move; (refine ⟨_, HStep.q rfl (Qs.move (ah rfl)), ?_⟩; refine ⟨_, rfl, ?_⟩)) | (apply Gh.len; (refine ⟨_, HStep.q rfl (Qs.lenN rfl (tab_of rfl)), ?_⟩; refine ⟨_, rfl, ?_⟩)) | (apply Gh.bin; (refine ⟨_, HStep.q rfl (Qs.cmpF rfl (ah rfl) (ah rfl) (by first | (simp only [cmpP, List.length_cons, List.length_nil]; omega) | (simp [cmpP]; done) | (simp [cmpP]; omega))), ?_⟩; refine ⟨_, rfl, ?_⟩)) | (apply Gh.pick; (refine ⟨_, HStep.q rfl (Qs.pickF (ah rfl) (ah rfl)), ?_⟩; refine ⟨_, rfl, ?_⟩)) | (apply Gh.move; (refine ⟨_, HStep.gT rfl rfl (Qs.move (ah rfl)), ?_⟩; refine ⟨_, rfl, ?_⟩)) | (apply Gh.load; (refine ⟨_, HStep.gT rfl rfl (Qs.loadEf (ah rfl) (tab_of rfl) rfl rfl), ?_⟩; refine ⟨_, rfl, ?_⟩)) | (apply Gh.fieldAddr; (refine ⟨_, HStep.gT rfl rfl (Qs.fldE (ah rfl) (tab_of rfl) rfl (tab_of rfl) rfl rfl), ?_⟩; refine ⟨_, rfl, ?_⟩)) | (apply Gh.indexAddr; (refine ⟨_, HStep.gT rfl rfl (Qs.indexN rfl (ah rfl) (tab_of rfl) (tab_of rfl) rfl (by first | omega | (simp; omega))), ?_⟩; refine ⟨_, rfl, ?_⟩)) | (apply Gh.len; (refine ⟨_, HStep.gT rfl rfl (Qs.lenN rfl (tab_of rfl)), ?_⟩; refine ⟨_, rfl, ?_⟩)) | (apply Gh.bin; first | (refine ⟨_, HStep.gT rfl rfl (Qs.cmpT rfl (ah rfl) (ah rfl) (by first | (simp only [cmpP, List.length_cons, List.length_nil]; omega) | (simp [cmpP]; done) | (simp [cmpP]; omega))), ?_⟩; refine ⟨_, rfl, ?_⟩) | (refine ⟨_, HStep.gT rfl rfl (Qs.cmpF rfl (ah rfl) (ah rfl) (by first | (simp only [cmpP, List.length_cons, List.length_nil]; omega) | (simp [cmpP]; done) | (simp [cmpP]; omega))), ?_⟩; refine ⟨_, rfl, ?_⟩)) | (apply Gh.pick; (refine ⟨_, HStep.gT rfl rfl (Qs.pickT (ah rfl) (ah rfl)), ?_⟩; refine ⟨_, rfl, ?_⟩)) | (apply Gh.callv; (refine ⟨_, HStep.gT rfl rfl (Qs.call (ah rfl) (RmCmp_abs (tAt P i).m (tAt Q k).m) (by first | ((repeat (first | exact ArgsLe.nil | refine ArgsLe.cons rfl (D.le.refl _) ?_ | refine ArgsLe.cons rfl D.le_nil ?_)); done) | fail)), ?_⟩; refine ⟨_, rfl, ?_⟩)))
     repeat (first | apply AWp.seq | apply AWl.nil | apply AThen.normal | apply AWp.skip | (apply Gc.cond; refine AWp.condF (ao rfl) ?_))
     refine AWp.dr' (DrawOk.self (by kernel_rfl)) [[], [], [(54, 1)], [(53, 0), (55, 2)], [(56, 3)], [], [], [(58, 5), (59, 6)], [(60, 7)], [(61, 8)], [], [], [(63, 10), (64, 11)], [(65, 12)], [(66, 13)], [(62, 9), (67, 14)], [(68, 15)], [(57, 4), (69, 16)]] [[], [], [1], [0, 1, 2], [0, 1, 2, 3], [0, 1, 2, 3, 4], [0, 1, 2, 3, 4], [0, 1, 2, 3, 4, 5, 6], [0, 1, 2, 3, 4, 5, 6, 7], [0, 1, 2, 3, 4, 5, 6, 7, 8], [0, 1, 2, 3, 4], [0, 1, 2, 3, 4], [0, 1, 2, 3, 4, 10, 11], [0, 1, 2, 3, 4, 10, 11, 12], [0, 1, 2, 3, 4, 10, 11, 12, 13], [0, 1, 2, 3, 4, 5, 6, 7, 8, 9, 10, 11, 12, 13, 14], [0, 1, 2, 3, 4, 5, 6, 7, 8, 9, 10, 11, 12, 13, 14, 15], [0, 1, 2, 3, 4, 5, 6, 7, 8, 9, 10, 11, 12, 13, 14, 15, 16]] rfl (by kernel_rfl) (by kernel_rfl) (by kernel_rfl) ?_
     repeat (first | refine ⟨_, rfl, ?_⟩ | (apply Gh.move; (refine ⟨_, HStep.q rfl (Qs.move (ah rfl)), ?_⟩; refine ⟨_, rfl, ?_⟩)) | (apply Gh.len; (refine ⟨_, HStep.q rfl (Qs.lenN rfl (tab_of rfl)), ?_⟩; refine ⟨_, rfl, ?_⟩)) | (apply Gh.bin; (refine ⟨_, HStep.q rfl (Qs.cmpF rfl (ah rfl) (ah rfl) (by first | (simp only [cmpP, List.length_cons, List.length_nil]; omega) | (simp [cmpP]; done) | (simp [cmpP]; omega))), ?_⟩; refine ⟨_, rfl, ?_⟩)) | (apply Gh.pick; (refine ⟨_, HStep.q rfl (Qs.pickF (ah rfl) (ah rfl)), ?_⟩; refine ⟨_, rfl, ?_⟩)) | (apply Gh.move; (refine ⟨_, HStep.gT rfl rfl (Qs.move (ah rfl)), ?_⟩; refine ⟨_, rfl, ?_⟩)) | (apply Gh.load; (refine ⟨_, HStep.gT rfl rfl (Qs.loadEf (ah rfl) (tab_of rfl) rfl rfl), ?_⟩; refine ⟨_, rfl, ?_⟩)) | (apply Gh.fieldAddr; (refine ⟨_, HStep.gT rfl rfl (Qs.fldE (ah rfl) (tab_of rfl) rfl (tab_of rfl) rfl rfl), ?_⟩; refine ⟨_, rfl, ?_⟩)) | (apply Gh.indexAddr; (refine ⟨_, HStep.gT rfl rfl (Qs.indexN rfl (ah rfl) (tab_of rfl) (tab_of rfl) rfl (by first | omega | (simp; omega))), ?_⟩; refine ⟨_, rfl, ?_⟩)) | (apply Gh.bin; (refine ⟨_, HStep.gT rfl rfl (Qs.cmpT rfl (ah rfl) (ah rfl) (by first | (simp only [cmpP, List.length_cons, List.length_nil]; omega) | (simp [cmpP]; done) | (simp [cmpP]; omega))), ?_⟩; refine ⟨_, rfl, ?_⟩)) | (apply Gh.callv; (refine ⟨_, HStep.gT rfl rfl (Qs.call (ah rfl) (RmCmp_abs (tAt P i).m (tAt Q k).m) (by first | ((repeat (first | exact ArgsLe.nil | refine ArgsLe.cons rfl (D.le.refl _) ?_ | refine ArgsLe.cons rfl D.le_nil ?_)); done) | fail)), ?_⟩; refine ⟨_, rfl, ?_⟩)))
     repeat (first | apply AWp.seq | apply AWp.region | (apply Ga.app; refine AWs.app (ao rfl) rfl rfl (tab_of rfl) (tab_of rfl) rfl rfl (by simp; omega) (by simp; omega) rfl (by first | ((repeat (first | exact PlainHp.nil | refine PlainHp.var ?_ | refine PlainHp.row ?_ | refine PlainHp.dead ?_)); done) | fail) rfl ?_) | (refine AWs.q rfl rfl ?_; first | (apply Gt.move; refine ⟨_, Qs.move (ao rfl), ?_⟩) | (apply Gt.assign; refine ⟨_, Qs.assign (ao rfl), ?_⟩) | (apply Gt.load; refine ⟨_, Qs.loadEf (ao rfl) (tab_of rfl) rfl rfl, ?_⟩) | (apply Gt.indexAddr; refine ⟨_, Qs.indexN rfl (ao rfl) (tab_of rfl) (tab_of rfl) rfl (by first | omega | (simp; omega)), ?_⟩) | (apply Gt.add; refine ⟨_, Qs.succ (ao rfl) (ao rfl) (by omega), ?_⟩) | (apply Gt.bslice; refine ⟨_, Bq.slice1 (ao rfl) (tab_of rfl) (tab_of rfl) rfl rfl rfl rfl rfl, ?_⟩)) | apply AWl.nil | apply AThen.normal | apply AWp.exit | apply AThen.exit | apply ABlock.hit | (apply Gc.cond; refine AWp.condT (ao rfl) ?_))
     refine ALoop.next ((P.length - i) + (Q.length - (k + 1))) (by omega) ⟨i, k + 1, R ++ [tAt Q k], by omega, by omega, ?_, by simp; omega, rfl, rfl⟩ ?_
     ·rw [mrg_lt hc] at heq
      rw [← heq, hdP]; simp
     ·exact AS.le_of (by repeat (first | exact FrLe.nil | refine FrLe.cons rfl (AVle.d rfl) ?_ | refine FrLe.cons rfl (AVle.own rfl) ?_)) (by repeat (first | exact HpLe.nil | refine HpLe.cons (OwLe.row (map_snoc tmC R (tAt Q k))) ?_))
    ·have hc' : lex8 (tAt P i).m (tAt Q k).m = 0 := by rw [← lx_lex]; exact hc
     by_cases hz : (tAt P i).c + (tAt Q k).c = 0
     ·have hsg := num_sign0.2 hz
      repeat (first | apply AWp.seq | apply AWp.region | (refine AWs.q rfl rfl ?_; first | (apply Gt.move; refine ⟨_, Qs.move (ao rfl), ?_⟩) | (apply Gt.len; refine ⟨_, Qs.lenN rfl (tab_of rfl), ?_⟩) | (apply Gt.bin; refine ⟨_, Qs.cmpT rfl (ao rfl) (ao rfl) (by first | (simp only [cmpP, List.length_cons, List.length_nil]; omega) | (simp [cmpP]; done) | (simp [cmpP]; omega)), ?_⟩) | (apply Gt.pick; refine ⟨_, Qs.pickT (ao rfl) (ao rfl), ?_⟩)) | refine AWs.sG rfl rfl rfl rfl rfl ?_ | apply AWl.nil | apply AThen.normal | apply AWp.block | apply AWp.skip | (apply Gc.cond; refine AWp.condT (ao rfl) ?_))
      refine AWp.dr' (DrawOk.self (by kernel_rfl)) [[], [], [(21, 1)], [(20, 0), (22, 2)], [(23, 3)], [], [], [(26, 6)], [(25, 5), (27, 7)], [(28, 8)], [], [], [(30, 10), (31, 11)], [(32, 12)], [(33, 13)], [], [], [(35, 15), (36, 16)], [(37, 17)], [(38, 18)], [(34, 14), (39, 19)], [(40, 20)], [(29, 9), (41, 21)], [(24, 4), (42, 22)]] [[], [], [1], [0, 1, 2], [0, 1, 2, 3], [0, 1, 2, 3, 4], [0, 1, 2, 3, 4], [0, 1, 2, 3, 4, 6], [0, 1, 2, 3, 4, 5, 6, 7], [0, 1, 2, 3, 4, 5, 6, 7, 8], [0, 1, 2, 3, 4, 5, 6, 7, 8, 9], [0, 1, 2, 3, 4, 5, 6, 7, 8, 9], [0, 1, 2, 3, 4, 5, 6, 7, 8, 9, 10, 11], [0, 1, 2, 3, 4, 5, 6, 7, 8, 9, 10, 11, 12], [0, 1, 2, 3, 4, 5, 6, 7, 8, 9, 10, 11, 12, 13], [0, 1, 2, 3, 4, 5, 6, 7, 8, 9], [0, 1, 2, 3, 4, 5, 6, 7, 8, 9], [0, 1, 2, 3, 4, 5, 6, 7, 8, 9, 15, 16], [0, 1, 2, 3, 4, 5, 6, 7, 8, 9, 15, 16, 17], [0, 1, 2, 3, 4, 5, 6, 7, 8, 9, 15, 16, 17, 18], [0, 1, 2, 3, 4, 5, 6, 7, 8, 9, 10, 11, 12, 13, 14, 15, 16, 17, 18, 19], [0, 1, 2, 3, 4, 5, 6, 7, 8, 9, 10, 11, 12, 13, 14, 15, 16, 17, 18, 19, 20], [0, 1, 2, 3, 4, 5, 6, 7, 8, 9, 10, 11, 12, 13, 14, 15, 16, 17, 18, 19, 20, 21], [0, 1, 2, 3, 4, 5, 6, 7, 8, 9, 10, 11, 12, 13, 14, 15, 16, 17, 18, 19, 20, 21, 22]] rfl (by kernel_rfl) (by kernel_rfl) (by kernel_rfl) ?_
      repeat (first | refine ⟨_, rfl, ?_⟩ | (apply Gh.move; (refine ⟨_, HStep.q rfl (Qs.move (ah rfl)), ?_⟩; refine ⟨_, rfl, ?_⟩)) | (apply Gh.len; (refine ⟨_, HStep.q rfl (Qs.lenN rfl (tab_of rfl)), ?_⟩; refine ⟨_, rfl, ?_⟩)) | (apply Gh.bin; (refine ⟨_, HStep.q rfl (Qs.cmpF rfl (ah rfl) (ah rfl) (by first | (simp only [cmpP, List.length_cons, List.length_nil]; omega) | (simp [cmpP]; done) | (simp [cmpP]; omega))), ?_⟩; refine ⟨_, rfl, ?_⟩)) | (apply Gh.pick; (refine ⟨_, HStep.q rfl (Qs.pickF (ah rfl) (ah rfl)), ?_⟩; refine ⟨_, rfl, ?_⟩)) | (apply Gh.move; (refine ⟨_, HStep.gT rfl rfl (Qs.move (ah rfl)), ?_⟩; refine ⟨_, rfl, ?_⟩)) | (apply Gh.load; (refine ⟨_, HStep.gT rfl rfl (Qs.loadEf (ah rfl) (tab_of rfl) rfl rfl), ?_⟩; refine ⟨_, rfl, ?_⟩)) | (apply Gh.fieldAddr; (refine ⟨_, HStep.gT rfl rfl (Qs.fldE (ah rfl) (tab_of rfl) rfl (tab_of rfl) rfl rfl), ?_⟩; refine ⟨_, rfl, ?_⟩)) | (apply Gh.indexAddr; (refine ⟨_, HStep.gT rfl rfl (Qs.indexN rfl (ah rfl) (tab_of rfl) (tab_of rfl) rfl (by first | omega | (simp; omega))), ?_⟩; refine ⟨_, rfl, ?_⟩)) | (apply Gh.len; (refine ⟨_, HStep.gT rfl rfl (Qs.lenN rfl (tab_of rfl)), ?_⟩; refine ⟨_, rfl, ?_⟩)) | (apply Gh.bin; first | (refine ⟨_, HStep.gT rfl rfl (Qs.cmpT rfl (ah rfl) (ah rfl) (by first | (simp only [cmpP, List.length_cons, List.length_nil]; omega) | (simp [cmpP]; done) | (simp [cmpP]; omega))), ?_⟩; refine ⟨_, rfl, ?_⟩) | (refine ⟨_, HStep.gT rfl rfl (Qs.cmpF rfl (ah rfl) (ah rfl) (by first | (simp only [cmpP, List.length_cons, List.length_nil]; omega) | (simp [cmpP]; done) | (simp [cmpP]; omega))), ?_⟩; refine ⟨_, rfl, ?_⟩)) | (apply Gh.pick; (refine ⟨_, HStep.gT rfl rfl (Qs.pickT (ah rfl) (ah rfl)), ?_⟩; refine ⟨_, rfl, ?_⟩)) | (apply Gh.callv; (refine ⟨_, HStep.gT rfl rfl (Qs.call (ah rfl) (RmCmp_abs (tAt P i).m (tAt Q k).m) (by first | ((repeat (first | exact ArgsLe.nil | refine ArgsLe.cons rfl (D.le.refl _) ?_ | refine ArgsLe.cons rfl D.le_nil ?_)); done) | fail)), ?_⟩; refine ⟨_, rfl, ?_⟩)))
      repeat (first | apply AWp.seq | apply AWl.nil | apply AThen.normal | apply AWp.skip | (apply Gc.cond; refine AWp.condF (ao rfl) ?_))
      refine AWp.dr' (DrawOk.self (by kernel_rfl)) [[], [], [(54, 1)], [(53, 0), (55, 2)], [(56, 3)], [], [], [(58, 5), (59, 6)], [(60, 7)], [(61, 8)], [], [], [(63, 10), (64, 11)], [(65, 12)], [(66, 13)], [(62, 9), (67, 14)], [(68, 15)], [(57, 4), (69, 16)]] [[], [], [1], [0, 1, 2], [0, 1, 2, 3], [0, 1, 2, 3, 4], [0, 1, 2, 3, 4], [0, 1, 2, 3, 4, 5, 6], [0, 1, 2, 3, 4, 5, 6, 7], [0, 1, 2, 3, 4, 5, 6, 7, 8], [0, 1, 2, 3, 4], [0, 1, 2, 3, 4], [0, 1, 2, 3, 4, 10, 11], [0, 1, 2, 3, 4, 10, 11, 12], [0, 1, 2, 3, 4, 10, 11, 12, 13], [0, 1, 2, 3, 4, 5, 6, 7, 8, 9, 10, 11, 12, 13, 14], [0, 1, 2, 3, 4, 5, 6, 7, 8, 9, 10, 11, 12, 13, 14, 15], [0, 1, 2, 3, 4, 5, 6, 7, 8, 9, 10, 11, 12, 13, 14, 15, 16]] rfl (by kernel_rfl) (by kernel_rfl) (by kernel_rfl) ?_
      repeat (first | refine ⟨_, rfl, ?_⟩ | (apply Gh.move; (refine ⟨_, HStep.q rfl (Qs.move (ah rfl)), ?_⟩; refine ⟨_, rfl, ?_⟩)) | (apply Gh.len; (refine ⟨_, HStep.q rfl (Qs.lenN rfl (tab_of rfl)), ?_⟩; refine ⟨_, rfl, ?_⟩)) | (apply Gh.bin; (refine ⟨_, HStep.q rfl (Qs.cmpF rfl (ah rfl) (ah rfl) (by first | (simp only [cmpP, List.length_cons, List.length_nil]; omega) | (simp [cmpP]; done) | (simp [cmpP]; omega))), ?_⟩; refine ⟨_, rfl, ?_⟩)) | (apply Gh.pick; (refine ⟨_, HStep.q rfl (Qs.pickF (ah rfl) (ah rfl)), ?_⟩; refine ⟨_, rfl, ?_⟩)) | (apply Gh.move; (refine ⟨_, HStep.gT rfl rfl (Qs.move (ah rfl)), ?_⟩; refine ⟨_, rfl, ?_⟩)) | (apply Gh.load; (refine ⟨_, HStep.gT rfl rfl (Qs.loadEf (ah rfl) (tab_of rfl) rfl rfl), ?_⟩; refine ⟨_, rfl, ?_⟩)) | (apply Gh.fieldAddr; (refine ⟨_, HStep.gT rfl rfl (Qs.fldE (ah rfl) (tab_of rfl) rfl (tab_of rfl) rfl rfl), ?_⟩; refine ⟨_, rfl, ?_⟩)) | (apply Gh.indexAddr; (refine ⟨_, HStep.gT rfl rfl (Qs.indexN rfl (ah rfl) (tab_of rfl) (tab_of rfl) rfl (by first | omega | (simp; omega))), ?_⟩; refine ⟨_, rfl, ?_⟩)) | (apply Gh.bin; (refine ⟨_, HStep.gT rfl rfl (Qs.cmpF rfl (ah rfl) (ah rfl) (by first | (simp only [cmpP, List.length_cons, List.length_nil]; omega) | (simp [cmpP]; done) | (simp [cmpP]; omega))), ?_⟩; refine ⟨_, rfl, ?_⟩)) | (apply Gh.callv; (refine ⟨_, HStep.gT rfl rfl (Qs.call (ah rfl) (RmCmp_abs (tAt P i).m (tAt Q k).m) (by first | ((repeat (first | exact ArgsLe.nil | refine ArgsLe.cons rfl (D.le.refl _) ?_ | refine ArgsLe.cons rfl D.le_nil ?_)); done) | fail)), ?_⟩; refine ⟨_, rfl, ?_⟩)))
      repeat (first | apply AWp.seq | apply AWl.nil | apply AThen.normal | apply AWp.skip | (apply Gc.cond; refine AWp.condF (ao rfl) ?_))
      refine AWp.dr' (DrawOk.self (by kernel_rfl)) [[], [], [(80, 0), (81, 1)], [(82, 2)], [(83, 3)], [], [], [(85, 5), (86, 6)], [(87, 7)], [(88, 8)], [(84, 4), (89, 9)], []] [[], [], [0, 1], [0, 1, 2], [0, 1, 2, 3], [], [], [5, 6], [5, 6, 7], [5, 6, 7, 8], [0, 1, 2, 3, 4, 5, 6, 7, 8, 9], []] rfl (by kernel_rfl) (by kernel_rfl) (by kernel_rfl) ?_
      repeat (first | refine ⟨_, rfl, ?_⟩ | (apply Gh.alloc; refine ⟨_, HStep.n rfl (tab_of rfl) rfl (by decide) rfl, ?_⟩; refine ⟨_, rfl, ?_⟩) | (apply Gh.move; (refine ⟨_, HStep.q rfl (Qs.move (ah rfl)), ?_⟩; refine ⟨_, rfl, ?_⟩)) | (apply Gh.load; (refine ⟨_, HStep.q rfl (Qs.ldE (ah rfl) (tab_of rfl) rfl rfl), ?_⟩; refine ⟨_, rfl, ?_⟩)) | (apply Gh.fieldAddr; (refine ⟨_, HStep.q rfl (Qs.fldE (ah rfl) (tab_of rfl) rfl (tab_of rfl) rfl rfl), ?_⟩; refine ⟨_, rfl, ?_⟩)) | (apply Gh.indexAddr; (refine ⟨_, HStep.q rfl (Qs.indexN rfl (ah rfl) (tab_of rfl) (tab_of rfl) rfl (by first | omega | (simp; omega))), ?_⟩; refine ⟨_, rfl, ?_⟩)) | (apply Gh.callv; (refine ⟨_, HStep.q rfl (Qs.call (ah rfl) (RAdd_abs (tAt P i).c (tAt Q k).c N M hs ht hNM) (by first | ((repeat (first | exact ArgsLe.nil | refine ArgsLe.cons rfl (D.le.refl _) ?_ | refine ArgsLe.cons rfl D.le_nil ?_)); done) | fail)), ?_⟩; refine ⟨_, rfl, ?_⟩)))
      repeat (first | apply AWp.seq | apply AWp.region | (apply Ga.store; refine AWs.stF (ao rfl) (ao rfl) rfl (tab_of rfl) rfl rfl rfl ?_) | (refine AWs.q rfl rfl ?_; first | (apply Gt.move; refine ⟨_, Qs.move (ao rfl), ?_⟩) | (apply Gt.assign; refine ⟨_, Qs.assign (ao rfl), ?_⟩) | (apply Gt.load; refine ⟨_, Qs.ldD (ao rfl) rfl (tab_of rfl) rfl rfl, ?_⟩) | (apply Gt.add; refine ⟨_, Qs.succ (ao rfl) (ao rfl) (by omega), ?_⟩) | (apply Gt.bin; refine ⟨_, Qs.cmpF rfl (ao rfl) (ao rfl) (by first | (simp only [cmpP, List.length_cons, List.length_nil]; omega) | (simp [cmpP]; done) | (simp [cmpP]; omega)), ?_⟩) | (apply Gt.callv; refine ⟨_, Qs.call (ao rfl) (RSign_abs ((tAt P i).c + (tAt Q k).c)) (by first | ((repeat (first | exact ArgsLe.nil | refine ArgsLe.cons rfl (D.le.refl _) ?_ | refine ArgsLe.cons rfl D.le_nil ?_)); done) | fail), ?_⟩)) | apply AWl.nil | apply AThen.normal | apply AWp.skip | apply ABlock.normal | (apply Gc.cond; refine AWp.condF (ao rfl) ?_))
      refine ALoop.next ((P.length - (i + 1)) + (Q.length - (k + 1))) (by omega) ⟨i + 1, k + 1, R, by omega, by omega, ?_, by omega, rfl, rfl⟩ ?_
      ·rw [mrg_eq hc, if_pos hz] at heq
       exact heq
      ·exact AS.le_of (by repeat (first | exact FrLe.nil | refine FrLe.cons rfl (AVle.d rfl) ?_ | refine FrLe.cons rfl (AVle.own rfl) ?_)) (by repeat (first | exact HpLe.nil | refine HpLe.cons (OwLe.row rfl) ?_))
     ·have hsg : ((tAt P i).c + (tAt Q k).c).num.sign ≠ 0 := fun e => hz (num_sign0.1 e)
      repeat (first | apply AWp.seq | apply AWp.region | (refine AWs.q rfl rfl ?_; first | (apply Gt.move; refine ⟨_, Qs.move (ao rfl), ?_⟩) | (apply Gt.len; refine ⟨_, Qs.lenN rfl (tab_of rfl), ?_⟩) | (apply Gt.bin; refine ⟨_, Qs.cmpT rfl (ao rfl) (ao rfl) (by first | (simp only [cmpP, List.length_cons, List.length_nil]; omega) | (simp [cmpP]; done) | (simp [cmpP]; omega)), ?_⟩) | (apply Gt.pick; refine ⟨_, Qs.pickT (ao rfl) (ao rfl), ?_⟩)) | refine AWs.sG rfl rfl rfl rfl rfl ?_ | apply AWl.nil | apply AThen.normal | apply AWp.block | apply AWp.skip | (apply Gc.cond; refine AWp.condT (ao rfl) ?_))
      refine AWp.dr' (DrawOk.self (by kernel_rfl)) [[], [], [(21, 1)], [(20, 0), (22, 2)], [(23, 3)], [], [], [(26, 6)], [(25, 5), (27, 7)], [(28, 8)], [], [], [(30, 10), (31, 11)], [(32, 12)], [(33, 13)], [], [], [(35, 15), (36, 16)], [(37, 17)], [(38, 18)], [(34, 14), (39, 19)], [(40, 20)], [(29, 9), (41, 21)], [(24, 4), (42, 22)]] [[], [], [1], [0, 1, 2], [0, 1, 2, 3], [0, 1, 2, 3, 4], [0, 1, 2, 3, 4], [0, 1, 2, 3, 4, 6], [0, 1, 2, 3, 4, 5, 6, 7], [0, 1, 2, 3, 4, 5, 6, 7, 8], [0, 1, 2, 3, 4, 5, 6, 7, 8, 9], [0, 1, 2, 3, 4, 5, 6, 7, 8, 9], [0, 1, 2, 3, 4, 5, 6, 7, 8, 9, 10, 11], [0, 1, 2, 3, 4, 5, 6, 7, 8, 9, 10, 11, 12], [0, 1, 2, 3, 4, 5, 6, 7, 8, 9, 10, 11, 12, 13], [0, 1, 2, 3, 4, 5, 6, 7, 8, 9], [0, 1, 2, 3, 4, 5, 6, 7, 8, 9], [0, 1, 2, 3, 4, 5, 6, 7, 8, 9, 15, 16], [0, 1, 2, 3, 4, 5, 6, 7, 8, 9, 15, 16, 17], [0, 1, 2, 3, 4, 5, 6, 7, 8, 9, 15, 16, 17, 18], [0, 1, 2, 3, 4, 5, 6, 7, 8, 9, 10, 11, 12, 13, 14, 15, 16, 17, 18, 19], [0, 1, 2, 3, 4, 5, 6, 7, 8, 9, 10, 11, 12, 13, 14, 15, 16, 17, 18, 19, 20], [0, 1, 2, 3, 4, 5, 6, 7, 8, 9, 10, 11, 12, 13, 14, 15, 16, 17, 18, 19, 20, 21], [0, 1, 2, 3, 4, 5, 6, 7, 8, 9, 10, 11, 12, 13, 14, 15, 16, 17, 18, 19, 20, 21, 22]] rfl (by kernel_rfl) (by kernel_rfl) (by kernel_rfl) ?_
      repeat (first | refine ⟨_, rfl, ?_⟩ | (apply Gh.move; (refine ⟨_, HStep.q rfl (Qs.move (ah rfl)), ?_⟩; refine ⟨_, rfl, ?_⟩)) | (apply Gh.len; (refine ⟨_, HStep.q rfl (Qs.lenN rfl (tab_of rfl)), ?_⟩; refine ⟨_, rfl, ?_⟩)) | (apply Gh.bin; (refine ⟨_, HStep.q rfl (Qs.cmpF rfl (ah rfl) (ah rfl) (by first | (simp only [cmpP, List.length_cons, List.length_nil]; omega) | (simp [cmpP]; done) | (simp [cmpP]; omega))), ?_⟩; refine ⟨_, rfl, ?_⟩)) | (apply Gh.pick; (refine ⟨_, HStep.q rfl (Qs.pickF (ah rfl) (ah rfl)), ?_⟩; refine ⟨_, rfl, ?_⟩)) | (apply Gh.move; (refine ⟨_, HStep.gT rfl rfl (Qs.move (ah rfl)), ?_⟩; refine ⟨_, rfl, ?_⟩)) | (apply Gh.load; (refine ⟨_, HStep.gT rfl rfl (Qs.loadEf (ah rfl) (tab_of rfl) rfl rfl), ?_⟩; refine ⟨_, rfl, ?_⟩)) | (apply Gh.fieldAddr; (refine ⟨_, HStep.gT rfl rfl (Qs.fldE (ah rfl) (tab_of rfl) rfl (tab_of rfl) rfl rfl), ?_⟩; refine ⟨_, rfl, ?_⟩)) | (apply Gh.indexAddr; (refine ⟨_, HStep.gT rfl rfl (Qs.indexN rfl (ah rfl) (tab_of rfl) (tab_of rfl) rfl (by first | omega | (simp; omega))), ?_⟩; refine ⟨_, rfl, ?_⟩)) | (apply Gh.len; (refine ⟨_, HStep.gT rfl rfl (Qs.lenN rfl (tab_of rfl)), ?_⟩; refine ⟨_, rfl, ?_⟩)) | (apply Gh.bin; first | (refine ⟨_, HStep.gT rfl rfl (Qs.cmpT rfl (ah rfl) (ah rfl) (by first | (simp only [cmpP, List.length_cons, List.length_nil]; omega) | (simp [cmpP]; done) | (simp [cmpP]; omega))), ?_⟩; refine ⟨_, rfl, ?_⟩) | (refine ⟨_, HStep.gT rfl rfl (Qs.cmpF rfl (ah rfl) (ah rfl) (by first | (simp only [cmpP, List.length_cons, List.length_nil]; omega) | (simp [cmpP]; done) | (simp [cmpP]; omega))), ?_⟩; refine ⟨_, rfl, ?_⟩)) | (apply Gh.pick; (refine ⟨_, HStep.gT rfl rfl (Qs.pickT (ah rfl) (ah rfl)), ?_⟩; refine ⟨_, rfl, ?_⟩)) | (apply Gh.callv; (refine ⟨_, HStep.gT rfl rfl (Qs.call (ah rfl) (RmCmp_abs (tAt P i).m (tAt Q k).m) (by first | ((repeat (first | exact ArgsLe.nil | refine ArgsLe.cons rfl (D.le.refl _) ?_ | refine ArgsLe.cons rfl D.le_nil ?_)); done) | fail)), ?_⟩; refine ⟨_, rfl, ?_⟩)))
      repeat (first | apply AWp.seq | apply AWl.nil | apply AThen.normal | apply AWp.skip | (apply Gc.cond; refine AWp.condF (ao rfl) ?_))
      refine AWp.dr' (DrawOk.self (by kernel_rfl)) [[], [], [(54, 1)], [(53, 0), (55, 2)], [(56, 3)], [], [], [(58, 5), (59, 6)], [(60, 7)], [(61, 8)], [], [], [(63, 10), (64, 11)], [(65, 12)], [(66, 13)], [(62, 9), (67, 14)], [(68, 15)], [(57, 4), (69, 16)]] [[], [], [1], [0, 1, 2], [0, 1, 2, 3], [0, 1, 2, 3, 4], [0, 1, 2, 3, 4], [0, 1, 2, 3, 4, 5, 6], [0, 1, 2, 3, 4, 5, 6, 7], [0, 1, 2, 3, 4, 5, 6, 7, 8], [0, 1, 2, 3, 4], [0, 1, 2, 3, 4], [0, 1, 2, 3, 4, 10, 11], [0, 1, 2, 3, 4, 10, 11, 12], [0, 1, 2, 3, 4, 10, 11, 12, 13], [0, 1, 2, 3, 4, 5, 6, 7, 8, 9, 10, 11, 12, 13, 14], [0, 1, 2, 3, 4, 5, 6, 7, 8, 9, 10, 11, 12, 13, 14, 15], [0, 1, 2, 3, 4, 5, 6, 7, 8, 9, 10, 11, 12, 13, 14, 15, 16]] rfl (by kernel_rfl) (by kernel_rfl) (by kernel_rfl) ?_
      repeat (first | refine ⟨_, rfl, ?_⟩ | (apply Gh.move; (refine ⟨_, HStep.q rfl (Qs.move (ah rfl)), ?_⟩; refine ⟨_, rfl, ?_⟩)) | (apply Gh.len; (refine ⟨_, HStep.q rfl (Qs.lenN rfl (tab_of rfl)), ?_⟩; refine ⟨_, rfl, ?_⟩)) | (apply Gh.bin; (refine ⟨_, HStep.q rfl (Qs.cmpF rfl (ah rfl) (ah rfl) (by first | (simp only [cmpP, List.length_cons, List.length_nil]; omega) | (simp [cmpP]; done) | (simp [cmpP]; omega))), ?_⟩; refine ⟨_, rfl, ?_⟩)) | (apply Gh.pick; (refine ⟨_, HStep.q rfl (Qs.pickF (ah rfl) (ah rfl)), ?_⟩; refine ⟨_, rfl, ?_⟩)) | (apply Gh.move; (refine ⟨_, HStep.gT rfl rfl (Qs.move (ah rfl)), ?_⟩; refine ⟨_, rfl, ?_⟩)) | (apply Gh.load; (refine ⟨_, HStep.gT rfl rfl (Qs.loadEf (ah rfl) (tab_of rfl) rfl rfl), ?_⟩; refine ⟨_, rfl, ?_⟩)) | (apply Gh.fieldAddr; (refine ⟨_, HStep.gT rfl rfl (Qs.fldE (ah rfl) (tab_of rfl) rfl (tab_of rfl) rfl rfl), ?_⟩; refine ⟨_, rfl, ?_⟩)) | (apply Gh.indexAddr; (refine ⟨_, HStep.gT rfl rfl (Qs.indexN rfl (ah rfl) (tab_of rfl) (tab_of rfl) rfl (by first | omega | (simp; omega))), ?_⟩; refine ⟨_, rfl, ?_⟩)) | (apply Gh.bin; (refine ⟨_, HStep.gT rfl rfl (Qs.cmpF rfl (ah rfl) (ah rfl) (by first | (simp only [cmpP, List.length_cons, List.length_nil]; omega) | (simp [cmpP]; done) | (simp [cmpP]; omega))), ?_⟩; refine ⟨_, rfl, ?_⟩)) | (apply Gh.callv; (refine ⟨_, HStep.gT rfl rfl (Qs.call (ah rfl) (RmCmp_abs (tAt P i).m (tAt Q k).m) (by first | ((repeat (first | exact ArgsLe.nil | refine ArgsLe.cons rfl (D.le.refl _) ?_ | refine ArgsLe.cons rfl D.le_nil ?_)); done) | fail)), ?_⟩; refine ⟨_, rfl, ?_⟩)))
      repeat (first | apply AWp.seq | apply AWl.nil | apply AThen.normal | apply AWp.skip | (apply Gc.cond; refine AWp.condF (ao rfl) ?_))
      refine AWp.dr' (DrawOk.self (by kernel_rfl)) [[], [], [(80, 0), (81, 1)], [(82, 2)], [(83, 3)], [], [], [(85, 5), (86, 6)], [(87, 7)], [(88, 8)], [(84, 4), (89, 9)], []] [[], [], [0, 1], [0, 1, 2], [0, 1, 2, 3], [], [], [5, 6], [5, 6, 7], [5, 6, 7, 8], [0, 1, 2, 3, 4, 5, 6, 7, 8, 9], []] rfl (by kernel_rfl) (by kernel_rfl) (by kernel_rfl) ?_
      repeat (first | refine ⟨_, rfl, ?_⟩ | (apply Gh.alloc; refine ⟨_, HStep.n rfl (tab_of rfl) rfl (by decide) rfl, ?_⟩; refine ⟨_, rfl, ?_⟩) | (apply Gh.move; (refine ⟨_, HStep.q rfl (Qs.move (ah rfl)), ?_⟩; refine ⟨_, rfl, ?_⟩)) | (apply Gh.load; (refine ⟨_, HStep.q rfl (Qs.ldE (ah rfl) (tab_of rfl) rfl rfl), ?_⟩; refine ⟨_, rfl, ?_⟩)) | (apply Gh.fieldAddr; (refine ⟨_, HStep.q rfl (Qs.fldE (ah rfl) (tab_of rfl) rfl (tab_of rfl) rfl rfl), ?_⟩; refine ⟨_, rfl, ?_⟩)) | (apply Gh.indexAddr; (refine ⟨_, HStep.q rfl (Qs.indexN rfl (ah rfl) (tab_of rfl) (tab_of rfl) rfl (by first | omega | (simp; omega))), ?_⟩; refine ⟨_, rfl, ?_⟩)) | (apply Gh.callv; (refine ⟨_, HStep.q rfl (Qs.call (ah rfl) (RAdd_abs (tAt P i).c (tAt Q k).c N M hs ht hNM) (by first | ((repeat (first | exact ArgsLe.nil | refine ArgsLe.cons rfl (D.le.refl _) ?_ | refine ArgsLe.cons rfl D.le_nil ?_)); done) | fail)), ?_⟩; refine ⟨_, rfl, ?_⟩)))
      repeat (first | apply AWp.seq | apply AWp.region | (apply Ga.store; refine AWs.stF (ao rfl) (ao rfl) rfl (tab_of rfl) rfl rfl rfl ?_) | (refine AWs.q rfl rfl ?_; first | (apply Gt.load; refine ⟨_, Qs.ldD (ao rfl) rfl (tab_of rfl) rfl rfl, ?_⟩) | (apply Gt.bin; refine ⟨_, Qs.cmpT rfl (ao rfl) (ao rfl) (by first | (simp only [cmpP, List.length_cons, List.length_nil]; omega) | (simp [cmpP]; done) | (simp [cmpP]; omega)), ?_⟩) | (apply Gt.callv; refine ⟨_, Qs.call (ao rfl) (RSign_abs ((tAt P i).c + (tAt Q k).c)) (by first | ((repeat (first | exact ArgsLe.nil | refine ArgsLe.cons rfl (D.le.refl _) ?_ | refine ArgsLe.cons rfl D.le_nil ?_)); done) | fail), ?_⟩)) | apply AWl.nil | apply AThen.normal | (apply Gc.cond; refine AWp.condT (ao rfl) ?_))
      refine AWp.dr' (DrawOk.self (by kernel_rfl)) [[], [], [], [], [(96, 2), (97, 3)], [(98, 4)], [(99, 5)], [(95, 1), (100, 6)], [(101, 7)]] [[], [], [], [], [2, 3], [2, 3, 4], [2, 3, 4, 5], [1, 2, 3, 4, 5, 6], [1, 2, 3, 4, 5, 6, 7]] rfl (by kernel_rfl) (by kernel_rfl) (by kernel_rfl) ?_
      repeat (first | refine ⟨_, rfl, ?_⟩ | (apply Gh.move; (refine ⟨_, HStep.q rfl (Qs.move (ah rfl)), ?_⟩; refine ⟨_, rfl, ?_⟩)) | (apply Gh.load; first | (refine ⟨_, HStep.q rfl (Qs.ldD (ah rfl) rfl (tab_of rfl) rfl rfl), ?_⟩; refine ⟨_, rfl, ?_⟩) | (refine ⟨_, HStep.q rfl (Qs.loadEf (ah rfl) (tab_of rfl) rfl rfl), ?_⟩; refine ⟨_, rfl, ?_⟩)) | (apply Gh.fieldAddr; (refine ⟨_, HStep.q rfl (Qs.fldE (ah rfl) (tab_of rfl) rfl (tab_of rfl) rfl rfl), ?_⟩; refine ⟨_, rfl, ?_⟩)) | (apply Gh.indexAddr; (refine ⟨_, HStep.q rfl (Qs.indexN rfl (ah rfl) (tab_of rfl) (tab_of rfl) rfl (by first | omega | (simp; omega))), ?_⟩; refine ⟨_, rfl, ?_⟩)) | (apply Gh.bslice; (refine ⟨_, HStep.q rfl (Bq.slice1 (ah rfl) (tab_of rfl) (tab_of rfl) rfl rfl rfl rfl rfl), ?_⟩; refine ⟨_, rfl, ?_⟩)) | (apply Gh.build; (refine Hq rfl ?_; refine Bq.build (tab_of rfl) rfl rfl rfl ?_; (repeat ((first | refine ⟨_, PartOk.ag (ah rfl), ?_⟩ | refine ⟨_, PartOk.one rfl (by first | exact One.ex_ rfl | exact One.sl | exact One.ep), ?_⟩); refine ⟨_, rfl, ?_⟩)); refine ⟨_, rfl, ?_⟩; refine ⟨_, rfl, ?_⟩)))
      repeat (first | apply AWp.seq | apply AWp.region | (apply Ga.app; refine AWs.app (ao rfl) rfl rfl (tab_of rfl) (tab_of rfl) rfl rfl (by simp; omega) (by simp; omega) rfl (by first | ((repeat (first | exact PlainHp.nil | refine PlainHp.var ?_ | refine PlainHp.row ?_ | refine PlainHp.dead ?_)); done) | fail) rfl ?_) | (refine AWs.q rfl rfl ?_; first | (apply Gt.move; refine ⟨_, Qs.move (ao rfl), ?_⟩) | (apply Gt.assign; refine ⟨_, Qs.assign (ao rfl), ?_⟩) | (apply Gt.add; refine ⟨_, Qs.succ (ao rfl) (ao rfl) (by omega), ?_⟩)) | apply AWl.nil | apply AThen.normal | apply ABlock.normal)
      refine ALoop.next ((P.length - (i + 1)) + (Q.length - (k + 1))) (by omega) ⟨i + 1, k + 1, R ++ [⟨(tAt P i).c + (tAt Q k).c, (tAt P i).m⟩], by omega, by omega, ?_, by simp; omega, rfl, rfl⟩ ?_
      ·rw [mrg_eq hc, if_neg hz] at heq
       rw [← heq]; simp
      ·exact AS.le_of (by repeat (first | exact FrLe.nil | refine FrLe.cons rfl (AVle.d rfl) ?_ | refine FrLe.cons rfl (AVle.own rfl) ?_)) (by repeat (first | exact HpLe.nil | refine HpLe.cons (OwLe.row (map_snoc tmC R ⟨(tAt P i).c + (tAt Q k).c, (tAt P i).m⟩)) ?_))
    ·have hc' : lex8 (tAt P i).m (tAt Q k).m = 1 := by rw [← lx_lex]; exact hc
     repeat (first | apply AWp.seq | apply AWp.region | (refine AWs.q rfl rfl ?_; first | (apply Gt.move; refine ⟨_, Qs.move (ao rfl), ?_⟩) | (apply Gt.len; refine ⟨_, Qs.lenN rfl (tab_of rfl), ?_⟩) | (apply Gt.bin; refine ⟨_, Qs.cmpT rfl (ao rfl) (ao rfl) (by first | (simp only [cmpP, List.length_cons, List.length_nil]; omega) | (simp [cmpP]; done) | (simp [cmpP]; omega)), ?_⟩) | (apply Gt.pick; refine ⟨_, Qs.pickT (ao rfl) (ao rfl), ?_⟩)) | refine AWs.sG rfl rfl rfl rfl rfl ?_ | apply AWl.nil | apply AThen.normal | apply AWp.block | apply AWp.skip | (apply Gc.cond; refine AWp.condT (ao rfl) ?_))
     refine AWp.dr' (DrawOk.self (by kernel_rfl)) [[], [], [(21, 1)], [(20, 0), (22, 2)], [(23, 3)], [], [], [(26, 6)], [(25, 5), (27, 7)], [(28, 8)], [], [], [(30, 10), (31, 11)], [(32, 12)], [(33, 13)], [], [], [(35, 15), (36, 16)], [(37, 17)], [(38, 18)], [(34, 14), (39, 19)], [(40, 20)], [(29, 9), (41, 21)], [(24, 4), (42, 22)]] [[], [], [1], [0, 1, 2], [0, 1, 2, 3], [0, 1, 2, 3, 4], [0, 1, 2, 3, 4], [0, 1, 2, 3, 4, 6], [0, 1, 2, 3, 4, 5, 6, 7], [0, 1, 2, 3, 4, 5, 6, 7, 8], [0, 1, 2, 3, 4, 5, 6, 7, 8, 9], [0, 1, 2, 3, 4, 5, 6, 7, 8, 9], [0, 1, 2, 3, 4, 5, 6, 7, 8, 9, 10, 11], [0, 1, 2, 3, 4, 5, 6, 7, 8, 9, 10, 11, 12], [0, 1, 2, 3, 4, 5, 6, 7, 8, 9, 10, 11, 12, 13], [0, 1, 2, 3, 4, 5, 6, 7, 8, 9], [0, 1, 2, 3, 4, 5, 6, 7, 8, 9], [0, 1, 2, 3, 4, 5, 6, 7, 8, 9, 15, 16], [0, 1, 2, 3, 4, 5, 6, 7, 8, 9, 15, 16, 17], [0, 1, 2, 3, 4, 5, 6, 7, 8, 9, 15, 16, 17, 18], [0, 1, 2, 3, 4, 5, 6, 7, 8, 9, 10, 11, 12, 13, 14, 15, 16, 17, 18, 19], [0, 1, 2, 3, 4, 5, 6, 7, 8, 9, 10, 11, 12, 13, 14, 15, 16, 17, 18, 19, 20], [0, 1, 2, 3, 4, 5, 6, 7, 8, 9, 10, 11, 12, 13, 14, 15, 16, 17, 18, 19, 20, 21], [0, 1, 2, 3, 4, 5, 6, 7, 8, 9, 10, 11, 12, 13, 14, 15, 16, 17, 18, 19, 20, 21, 22]] rfl (by kernel_rfl) (by kernel_rfl) (by kernel_rfl) ?_
     repeat (first | refine ⟨_, rfl, ?_⟩ | (apply Gh.move; (refine ⟨_, HStep.q rfl (Qs.move (ah rfl)), ?_⟩; refine ⟨_, rfl, ?_⟩)) | (apply Gh.len; (refine ⟨_, HStep.q rfl (Qs.lenN rfl (tab_of rfl)), ?_⟩; refine ⟨_, rfl, ?_⟩)) | (apply Gh.bin; (refine ⟨_, HStep.q rfl (Qs.cmpF rfl (ah rfl) (ah rfl) (by first | (simp only [cmpP, List.length_cons, List.length_nil]; omega) | (simp [cmpP]; done) | (simp [cmpP]; omega))), ?_⟩; refine ⟨_, rfl, ?_⟩)) | (apply Gh.pick; (refine ⟨_, HStep.q rfl (Qs.pickF (ah rfl) (ah rfl)), ?_⟩; refine ⟨_, rfl, ?_⟩)) | (apply Gh.move; (refine ⟨_, HStep.gT rfl rfl (Qs.move (ah rfl)), ?_⟩; refine ⟨_, rfl, ?_⟩)) | (apply Gh.load; (refine ⟨_, HStep.gT rfl rfl (Qs.loadEf (ah rfl) (tab_of rfl) rfl rfl), ?_⟩; refine ⟨_, rfl, ?_⟩)) | (apply Gh.fieldAddr; (refine ⟨_, HStep.gT rfl rfl (Qs.fldE (ah rfl) (tab_of rfl) rfl (tab_of rfl) rfl rfl), ?_⟩; refine ⟨_, rfl, ?_⟩)) | (apply Gh.indexAddr; (refine ⟨_, HStep.gT rfl rfl (Qs.indexN rfl (ah rfl) (tab_of rfl) (tab_of rfl) rfl (by first | omega | (simp; omega))), ?_⟩; refine ⟨_, rfl, ?_⟩)) | (apply Gh.len; (refine ⟨_, HStep.gT rfl rfl (Qs.lenN rfl (tab_of rfl)), ?_⟩; refine ⟨_, rfl, ?_⟩)) | (apply Gh.bin; (refine ⟨_, HStep.gT rfl rfl (Qs.cmpT rfl (ah rfl) (ah rfl) (by first | (simp only [cmpP, List.length_cons, List.length_nil]; omega) | (simp [cmpP]; done) | (simp [cmpP]; omega))), ?_⟩; refine ⟨_, rfl, ?_⟩)) | (apply Gh.pick; (refine ⟨_, HStep.gT rfl rfl (Qs.pickT (ah rfl) (ah rfl)), ?_⟩; refine ⟨_, rfl, ?_⟩)) | (apply Gh.callv; (refine ⟨_, HStep.gT rfl rfl (Qs.call (ah rfl) (RmCmp_abs (tAt P i).m (tAt Q k).m) (by first | ((repeat (first | exact ArgsLe.nil | refine ArgsLe.cons rfl (D.le.refl _) ?_ | refine ArgsLe.cons rfl D.le_nil ?_)); done) | fail)), ?_⟩; refine ⟨_, rfl, ?_⟩)))
     repeat (first | apply AWp.seq | apply AWp.region | (apply Ga.app; refine AWs.app (ao rfl) rfl rfl (tab_of rfl) (tab_of rfl) rfl rfl (by simp; omega) (by simp; omega) rfl (by first | ((repeat (first | exact PlainHp.nil | refine PlainHp.var ?_ | refine PlainHp.row ?_ | refine PlainHp.dead ?_)); done) | fail) rfl ?_) | (refine AWs.q rfl rfl ?_; first | (apply Gt.move; refine ⟨_, Qs.move (ao rfl), ?_⟩) | (apply Gt.assign; refine ⟨_, Qs.assign (ao rfl), ?_⟩) | (apply Gt.load; refine ⟨_, Qs.loadEf (ao rfl) (tab_of rfl) rfl rfl, ?_⟩) | (apply Gt.indexAddr; refine ⟨_, Qs.indexN rfl (ao rfl) (tab_of rfl) (tab_of rfl) rfl (by first | omega | (simp; omega)), ?_⟩) | (apply Gt.add; refine ⟨_, Qs.succ (ao rfl) (ao rfl) (by omega), ?_⟩) | (apply Gt.bslice; refine ⟨_, Bq.slice1 (ao rfl) (tab_of rfl) (tab_of rfl) rfl rfl rfl rfl rfl, ?_⟩)) | apply AWl.nil | apply AThen.normal | apply AWp.exit | apply AThen.exit | apply ABlock.hit | (apply Gc.cond; refine AWp.condT (ao rfl) ?_))
     refine ALoop.next ((P.length - (i + 1)) + (Q.length - k)) (by omega) ⟨i + 1, k, R ++ [tAt P i], by omega, by omega, ?_, by simp; omega, rfl, rfl⟩ ?_
     ·rw [mrg_gt hc] at heq
      rw [← heq, hdQ]; simp
     ·exact AS.le_of (by repeat (first | exact FrLe.nil | refine FrLe.cons rfl (AVle.d rfl) ?_ | refine FrLe.cons rfl (AVle.own rfl) ?_)) (by repeat (first | exact HpLe.nil | refine HpLe.cons (OwLe.row (map_snoc tmC R (tAt P i))) ?_))
   ·repeat (first | apply AWp.seq | apply AWp.region | (refine AWs.q rfl rfl ?_; first | (apply Gt.move; refine ⟨_, Qs.move (ao rfl), ?_⟩) | (apply Gt.len; refine ⟨_, Qs.lenN rfl (tab_of rfl), ?_⟩) | (apply Gt.bin; refine ⟨_, Qs.cmpT rfl (ao rfl) (ao rfl) (by first | (simp only [cmpP, List.length_cons, List.length_nil]; omega) | (simp [cmpP]; done) | (simp [cmpP]; omega)), ?_⟩) | (apply Gt.pick; refine ⟨_, Qs.pickT (ao rfl) (ao rfl), ?_⟩)) | refine AWs.sG rfl rfl rfl rfl rfl ?_ | apply AWl.nil | apply AThen.normal | apply AWp.block | apply AWp.skip | (apply Gc.cond; refine AWp.condT (ao rfl) ?_))
    refine AWp.dr' (DrawOk.self (by kernel_rfl)) [[], [], [(21, 1)], [(20, 0), (22, 2)], [(23, 3)], [], [], [(26, 6)], [(25, 5), (27, 7)], [(28, 8)], [], [], [(30, 10), (31, 11)], [(32, 12)], [(33, 13)], [], [], [(35, 15), (36, 16)], [(37, 17)], [(38, 18)], [(34, 14), (39, 19)], [(40, 20)], [(29, 9), (41, 21)], [(24, 4), (42, 22)]] [[], [], [1], [0, 1, 2], [0, 1, 2, 3], [0, 1, 2, 3, 4], [0, 1, 2, 3, 4], [0, 1, 2, 3, 4, 6], [0, 1, 2, 3, 4, 5, 6, 7], [0, 1, 2, 3, 4, 5, 6, 7, 8], [0, 1, 2, 3, 4, 5, 6, 7, 8, 9], [0, 1, 2, 3, 4, 5, 6, 7, 8, 9], [0, 1, 2, 3, 4, 5, 6, 7, 8, 9, 10, 11], [0, 1, 2, 3, 4, 5, 6, 7, 8, 9, 10, 11, 12], [0, 1, 2, 3, 4, 5, 6, 7, 8, 9, 10, 11, 12, 13], [0, 1, 2, 3, 4, 5, 6, 7, 8, 9], [0, 1, 2, 3, 4, 5, 6, 7, 8, 9], [0, 1, 2, 3, 4, 5, 6, 7, 8, 9, 15, 16], [0, 1, 2, 3, 4, 5, 6, 7, 8, 9, 15, 16, 17], [0, 1, 2, 3, 4, 5, 6, 7, 8, 9, 15, 16, 17, 18], [0, 1, 2, 3, 4, 5, 6, 7, 8, 9, 10, 11, 12, 13, 14, 15, 16, 17, 18, 19], [0, 1, 2, 3, 4, 5, 6, 7, 8, 9, 10, 11, 12, 13, 14, 15, 16, 17, 18, 19, 20], [0, 1, 2, 3, 4, 5, 6, 7, 8, 9, 10, 11, 12, 13, 14, 15, 16, 17, 18, 19, 20, 21], [0, 1, 2, 3, 4, 5, 6, 7, 8, 9, 10, 11, 12, 13, 14, 15, 16, 17, 18, 19, 20, 21, 22]] rfl (by kernel_rfl) (by kernel_rfl) (by kernel_rfl) ?_
    repeat (first | refine ⟨_, rfl, ?_⟩ | (apply Gh.move; (refine ⟨_, HStep.q rfl (Qs.move (ah rfl)), ?_⟩; refine ⟨_, rfl, ?_⟩)) | (apply Gh.len; (refine ⟨_, HStep.q rfl (Qs.lenN rfl (tab_of rfl)), ?_⟩; refine ⟨_, rfl, ?_⟩)) | (apply Gh.bin; (refine ⟨_, HStep.q rfl (Qs.cmpT rfl (ah rfl) (ah rfl) (by first | (simp only [cmpP, List.length_cons, List.length_nil]; omega) | (simp [cmpP]; done) | (simp [cmpP]; omega))), ?_⟩; refine ⟨_, rfl, ?_⟩)) | (apply Gh.pick; (refine ⟨_, HStep.q rfl (Qs.pickT (ah rfl) (ah rfl)), ?_⟩; refine ⟨_, rfl, ?_⟩)) | (refine ⟨_, HStep.gF rfl rfl rfl, ?_⟩; refine ⟨_, rfl, ?_⟩))
    repeat (first | apply AWp.seq | apply AWp.region | (apply Ga.app; refine AWs.app (ao rfl) rfl rfl (tab_of rfl) (tab_of rfl) rfl rfl (by simp; omega) (by simp; omega) rfl (by first | ((repeat (first | exact PlainHp.nil | refine PlainHp.var ?_ | refine PlainHp.row ?_ | refine PlainHp.dead ?_)); done) | fail) rfl ?_) | (refine AWs.q rfl rfl ?_; first | (apply Gt.move; refine ⟨_, Qs.move (ao rfl), ?_⟩) | (apply Gt.assign; refine ⟨_, Qs.assign (ao rfl), ?_⟩) | (apply Gt.load; refine ⟨_, Qs.loadEf (ao rfl) (tab_of rfl) rfl rfl, ?_⟩) | (apply Gt.indexAddr; refine ⟨_, Qs.indexN rfl (ao rfl) (tab_of rfl) (tab_of rfl) rfl (by first | omega | (simp; omega)), ?_⟩) | (apply Gt.add; refine ⟨_, Qs.succ (ao rfl) (ao rfl) (by omega), ?_⟩) | (apply Gt.bslice; refine ⟨_, Bq.slice1 (ao rfl) (tab_of rfl) (tab_of rfl) rfl rfl rfl rfl rfl, ?_⟩)) | apply AWl.nil | apply AThen.normal | apply AWp.exit | apply AThen.exit | apply ABlock.hit | (apply Gc.cond; refine AWp.condT (ao rfl) ?_))
    refine ALoop.next ((P.length - (i + 1)) + (Q.length - k)) (by omega) ⟨i + 1, k, R ++ [tAt P i], by omega, by omega, ?_, by simp; omega, rfl, rfl⟩ ?_
    ·have hq : Q.drop k = [] := List.drop_eq_nil_of_le (by omega)
     rw [hdP, hq, mrg_nil] at heq
     rw [← heq, hq, mrg_nil]; simp
    ·exact AS.le_of (by repeat (first | exact FrLe.nil | refine FrLe.cons rfl (AVle.d rfl) ?_ | refine FrLe.cons rfl (AVle.own rfl) ?_)) (by repeat (first | exact HpLe.nil | refine HpLe.cons (OwLe.row (map_snoc tmC R (tAt P i))) ?_))
  ·have hp : P.drop i = [] := List.drop_eq_nil_of_le (by omega)
   by_cases hkq : k < Q.length
   ·have hdQ := drop_tAt hkq
    repeat (first | apply AWp.seq | apply AWp.region | (refine AWs.q rfl rfl ?_; first | (apply Gt.move; refine ⟨_, Qs.move (ao rfl), ?_⟩) | (apply Gt.len; refine ⟨_, Qs.lenN rfl (tab_of rfl), ?_⟩) | (apply Gt.bin; refine ⟨_, Qs.cmpF rfl (ao rfl) (ao rfl) (by first | (simp only [cmpP, List.length_cons, List.length_nil]; omega) | (simp [cmpP]; done) | (simp [cmpP]; omega)), ?_⟩) | (apply Gt.pick; refine ⟨_, Qs.pickF (ao rfl) (ao rfl), ?_⟩)) | (refine AWs.qG rfl rfl rfl rfl rfl ?_; first | (apply Gt.move; refine ⟨_, Qs.move (ao rfl), ?_⟩) | (apply Gt.len; refine ⟨_, Qs.lenN rfl (tab_of rfl), ?_⟩) | (apply Gt.bin; refine ⟨_, Qs.cmpT rfl (ao rfl) (ao rfl) (by first | (simp only [cmpP, List.length_cons, List.length_nil]; omega) | (simp [cmpP]; done) | (simp [cmpP]; omega)), ?_⟩)) | apply AWl.nil | apply AThen.normal | apply AWp.block | apply AWp.skip | (apply Gc.cond; refine AWp.condT (ao rfl) ?_))
    refine AWp.dr' (DrawOk.self (by kernel_rfl)) [[], [], [(21, 1)], [(20, 0), (22, 2)], [(23, 3)], [], [], [(26, 6)], [(25, 5), (27, 7)], [(28, 8)], [], [], [(30, 10), (31, 11)], [(32, 12)], [(33, 13)], [], [], [(35, 15), (36, 16)], [(37, 17)], [(38, 18)], [(34, 14), (39, 19)], [(40, 20)], [(29, 9), (41, 21)], [(24, 4), (42, 22)]] [[], [], [1], [0, 1, 2], [0, 1, 2, 3], [0, 1, 2, 3, 4], [0, 1, 2, 3, 4], [0, 1, 2, 3, 4, 6], [0, 1, 2, 3, 4, 5, 6, 7], [0, 1, 2, 3, 4, 5, 6, 7, 8], [0, 1, 2, 3, 4, 5, 6, 7, 8, 9], [0, 1, 2, 3, 4, 5, 6, 7, 8, 9], [0, 1, 2, 3, 4, 5, 6, 7, 8, 9, 10, 11], [0, 1, 2, 3, 4, 5, 6, 7, 8, 9, 10, 11, 12], [0, 1, 2, 3, 4, 5, 6, 7, 8, 9, 10, 11, 12, 13], [0, 1, 2, 3, 4, 5, 6, 7, 8, 9], [0, 1, 2, 3, 4, 5, 6, 7, 8, 9], [0, 1, 2, 3, 4, 5, 6, 7, 8, 9, 15, 16], [0, 1, 2, 3, 4, 5, 6, 7, 8, 9, 15, 16, 17], [0, 1, 2, 3, 4, 5, 6, 7, 8, 9, 15, 16, 17, 18], [0, 1, 2, 3, 4, 5, 6, 7, 8, 9, 10, 11, 12, 13, 14, 15, 16, 17, 18, 19], [0, 1, 2, 3, 4, 5, 6, 7, 8, 9, 10, 11, 12, 13, 14, 15, 16, 17, 18, 19, 20], [0, 1, 2, 3, 4, 5, 6, 7, 8, 9, 10, 11, 12, 13, 14, 15, 16, 17, 18, 19, 20, 21], [0, 1, 2, 3, 4, 5, 6, 7, 8, 9, 10, 11, 12, 13, 14, 15, 16, 17, 18, 19, 20, 21, 22]] rfl (by kernel_rfl) (by kernel_rfl) (by kernel_rfl) ?_
    repeat (first | refine ⟨_, rfl, ?_⟩ | (apply Gh.move; (refine ⟨_, HStep.q rfl (Qs.move (ah rfl)), ?_⟩; refine ⟨_, rfl, ?_⟩)) | (apply Gh.len; (refine ⟨_, HStep.q rfl (Qs.lenN rfl (tab_of rfl)), ?_⟩; refine ⟨_, rfl, ?_⟩)) | (apply Gh.bin; (refine ⟨_, HStep.q rfl (Qs.cmpF rfl (ah rfl) (ah rfl) (by first | (simp only [cmpP, List.length_cons, List.length_nil]; omega) | (simp [cmpP]; done) | (simp [cmpP]; omega))), ?_⟩; refine ⟨_, rfl, ?_⟩)) | (apply Gh.pick; (refine ⟨_, HStep.q rfl (Qs.pickF (ah rfl) (ah rfl)), ?_⟩; refine ⟨_, rfl, ?_⟩)) | (refine ⟨_, HStep.gF rfl rfl rfl, ?_⟩; refine ⟨_, rfl, ?_⟩) | (apply Gh.move; (refine ⟨_, HStep.gT rfl rfl (Qs.move (ah rfl)), ?_⟩; refine ⟨_, rfl, ?_⟩)) | (apply Gh.len; (refine ⟨_, HStep.gT rfl rfl (Qs.lenN rfl (tab_of rfl)), ?_⟩; refine ⟨_, rfl, ?_⟩)) | (apply Gh.bin; (refine ⟨_, HStep.gT rfl rfl (Qs.cmpF rfl (ah rfl) (ah rfl) (by first | (simp only [cmpP, List.length_cons, List.length_nil]; omega) | (simp [cmpP]; done) | (simp [cmpP]; omega))), ?_⟩; refine ⟨_, rfl, ?_⟩)) | (apply Gh.pick; (refine ⟨_, HStep.gT rfl rfl (Qs.pickF (ah rfl) (ah rfl)), ?_⟩; refine ⟨_, rfl, ?_⟩)))
    repeat (first | apply AWp.seq | apply AWl.nil | apply AThen.normal | apply AWp.skip | (apply Gc.cond; refine AWp.condF (ao rfl) ?_))
    refine AWp.dr' (DrawOk.self (by kernel_rfl)) [[], [], [(54, 1)], [(53, 0), (55, 2)], [(56, 3)], [], [], [(58, 5), (59, 6)], [(60, 7)], [(61, 8)], [], [], [(63, 10), (64, 11)], [(65, 12)], [(66, 13)], [(62, 9), (67, 14)], [(68, 15)], [(57, 4), (69, 16)]] [[], [], [1], [0, 1, 2], [0, 1, 2, 3], [0, 1, 2, 3, 4], [0, 1, 2, 3, 4], [0, 1, 2, 3, 4, 5, 6], [0, 1, 2, 3, 4, 5, 6, 7], [0, 1, 2, 3, 4, 5, 6, 7, 8], [0, 1, 2, 3, 4], [0, 1, 2, 3, 4], [0, 1, 2, 3, 4, 10, 11], [0, 1, 2, 3, 4, 10, 11, 12], [0, 1, 2, 3, 4, 10, 11, 12, 13], [0, 1, 2, 3, 4, 5, 6, 7, 8, 9, 10, 11, 12, 13, 14], [0, 1, 2, 3, 4, 5, 6, 7, 8, 9, 10, 11, 12, 13, 14, 15], [0, 1, 2, 3, 4, 5, 6, 7, 8, 9, 10, 11, 12, 13, 14, 15, 16]] rfl (by kernel_rfl) (by kernel_rfl) (by kernel_rfl) ?_
    repeat (first | refine ⟨_, rfl, ?_⟩ | (apply Gh.move; (refine ⟨_, HStep.q rfl (Qs.move (ah rfl)), ?_⟩; refine ⟨_, rfl, ?_⟩)) | (apply Gh.len; (refine ⟨_, HStep.q rfl (Qs.lenN rfl (tab_of rfl)), ?_⟩; refine ⟨_, rfl, ?_⟩)) | (apply Gh.bin; (refine ⟨_, HStep.q rfl (Qs.cmpT rfl (ah rfl) (ah rfl) (by first | (simp only [cmpP, List.length_cons, List.length_nil]; omega) | (simp [cmpP]; done) | (simp [cmpP]; omega))), ?_⟩; refine ⟨_, rfl, ?_⟩)) | (apply Gh.pick; (refine ⟨_, HStep.q rfl (Qs.pickT (ah rfl) (ah rfl)), ?_⟩; refine ⟨_, rfl, ?_⟩)) | (refine ⟨_, HStep.gF rfl rfl rfl, ?_⟩; refine ⟨_, rfl, ?_⟩))
    repeat (first | apply AWp.seq | apply AWp.region | (apply Ga.app; refine AWs.app (ao rfl) rfl rfl (tab_of rfl) (tab_of rfl) rfl rfl (by simp; omega) (by simp; omega) rfl (by first | ((repeat (first | exact PlainHp.nil | refine PlainHp.var ?_ | refine PlainHp.row ?_ | refine PlainHp.dead ?_)); done) | fail) rfl ?_) | (refine AWs.q rfl rfl ?_; first | (apply Gt.move; refine ⟨_, Qs.move (ao rfl), ?_⟩) | (apply Gt.assign; refine ⟨_, Qs.assign (ao rfl), ?_⟩) | (apply Gt.load; refine ⟨_, Qs.loadEf (ao rfl) (tab_of rfl) rfl rfl, ?_⟩) | (apply Gt.indexAddr; refine ⟨_, Qs.indexN rfl (ao rfl) (tab_of rfl) (tab_of rfl) rfl (by first | omega | (simp; omega)), ?_⟩) | (apply Gt.add; refine ⟨_, Qs.succ (ao rfl) (ao rfl) (by omega), ?_⟩) | (apply Gt.bslice; refine ⟨_, Bq.slice1 (ao rfl) (tab_of rfl) (tab_of rfl) rfl rfl rfl rfl rfl, ?_⟩)) | apply AWl.nil | apply AThen.normal | apply AWp.exit | apply AThen.exit | apply ABlock.hit | (apply Gc.cond; refine AWp.condT (ao rfl) ?_))
    refine ALoop.next ((P.length - i) + (Q.length - (k + 1))) (by omega) ⟨i, k + 1, R ++ [tAt Q k], by omega, by omega, ?_, by simp; omega, rfl, rfl⟩ ?_
    ·rw [hdQ, hp, nil_mrg] at heq
     rw [← heq, hp, nil_mrg]; simp
    ·exact AS.le_of (by repeat (first | exact FrLe.nil | refine FrLe.cons rfl (AVle.d rfl) ?_ | refine FrLe.cons rfl (AVle.own rfl) ?_)) (by repeat (first | exact HpLe.nil | refine HpLe.cons (OwLe.row (map_snoc tmC R (tAt Q k))) ?_))
   ·repeat (first | apply AWp.seq | apply AWp.region | (refine AWs.q rfl rfl ?_; first | (apply Gt.move; refine ⟨_, Qs.move (ao rfl), ?_⟩) | (apply Gt.assign; refine ⟨_, Qs.assign (ao rfl), ?_⟩) | (apply Gt.len; refine ⟨_, Qs.lenN rfl (tab_of rfl), ?_⟩) | (apply Gt.bin; refine ⟨_, Qs.cmpF rfl (ao rfl) (ao rfl) (by first | (simp only [cmpP, List.length_cons, List.length_nil]; omega) | (simp [cmpP]; done) | (simp [cmpP]; omega)), ?_⟩) | (apply Gt.pick; refine ⟨_, Qs.pickF (ao rfl) (ao rfl), ?_⟩)) | (refine AWs.qG rfl rfl rfl rfl rfl ?_; first | (apply Gt.move; refine ⟨_, Qs.move (ao rfl), ?_⟩) | (apply Gt.len; refine ⟨_, Qs.lenN rfl (tab_of rfl), ?_⟩) | (apply Gt.bin; refine ⟨_, Qs.cmpF rfl (ao rfl) (ao rfl) (by first | (simp only [cmpP, List.length_cons, List.length_nil]; omega) | (simp [cmpP]; done) | (simp [cmpP]; omega)), ?_⟩)) | apply AWl.nil | apply AThen.normal | apply AWp.exit | apply AWp.ret | apply AThen.exit | apply ABlock.hit | apply ALoop.exit | (apply Gc.cond; refine AWp.condF (ao rfl) ?_))
    have hq : Q.drop k = [] := List.drop_eq_nil_of_le (by omega)
    exact Fin.ret (Rets.of1 (ResV.tmp rfl rfl) (D.le.of_eq (by rw [← heq, hp, hq, nil_mrg, List.append_nil]; rfl)))
end Go.Proofs.YteicdddphdomkaaGreat
namespace Go.Proofs.YteicdddphdomkaaGreat
open Go.RowKit
inductive AddE (e : Nat) : List Oper → List Oper → Prop
 | nil : AddE e [] []
 | keep {o : Oper} {l l' : List Oper} (h : AddE e l l') : AddE e (o :: l) (o :: l')
 | add {dd : Option Tmp} {op : Op} {ty : TypeId} {ps : String} {af : Array Edge} {gd : Option (Nat × Bool)} {l l' : List Oper} (h : AddE e l l') : AddE e (⟨dd, op, ty, ps, af, gd⟩ :: l) (⟨dd, op, ty, ps, af.push ⟨e, .data⟩, gd⟩ :: l')
theorem AddE.length {e : Nat} {l l' : List Oper} (h : AddE e l l') : l.length = l'.length := by
 induction h <;> simp_all
theorem AddE.at {e : Nat} {l l' : List Oper} (h : AddE e l l') : ∀ (i : Nat) (o : Oper), l[i]? = some o → ∃ o', l'[i]? = some o' ∧ (o' = o ∨ o' = { o with after := o.after.push ⟨e, .data⟩ }) := by
 induction h with
 | nil => intro i o ho; simp at ho
 | keep h ih =>
  intro i o ho
  cases i with
  | zero => simp at ho; subst ho; exact ⟨_, by simp, .inl rfl⟩
  | succ i => simpa using ih i o (by simpa using ho)
 | add h ih =>
  intro i o ho
  cases i with
  | zero => simp at ho; subst ho; exact ⟨_, by simp, .inr rfl⟩
  | succ i => simpa using ih i o (by simpa using ho)
def floatB (e : Nat) (L L' : List Oper) : Bool :=
 match L[e]?, L'[e]? with
 | some oe, some oe' => (match oe.op with | .extract _ _ => true | _ => false) && oe.guard.isNone && (edges oe == edges oe') &&
  ((List.range L.length).all fun i => match L[i]?, L'[i]? with
   | some o, some o' => (edges o == edges o') || (edges oe).all fun j => (edges o).contains j
   | _, _ => false) &&
  ((List.range L.length).all fun j => j == e || match L[j]? with
   | some o => (edges o).contains e || (edges oe).contains j || oe.apart L.toArray o
   | none => false) &&
  L.all fun o => notSelect o.op
 | _, _ => false
theorem extract_run {P : Program} {o : Oper} {x : Operand} {n : Nat} {a : Act} (hop : o.op = .extract x n) : (∃ v, ∀ w, (execOp a.eval o).run P w = .ok (.value v) w) ∨ ∀ (K : Act → World → Prop) (Q : Exit → Act → World → Prop) w, ¬ o.wp P a w K Q := by
 cases hx : a.eval x with
 | tuple cs =>
  cases hc : cs[n]? with
  | some v => exact .inl ⟨v, fun w => by simp [execOp, hop, Instr.extract, hx, hc]⟩
  | none =>
   refine .inr fun K Q w hw => ?_
   simp [Oper.wp, execOp, hop, Instr.extract, hx, hc, stuck, Oper.upon] at hw
 | _ =>
  refine .inr fun K Q w hw => ?_
  simp [Oper.wp, execOp, hop, Instr.extract, hx, stuck, Oper.upon] at hw
theorem edges_of {L : List Oper} {j : Nat} {o : Oper} {listed : Array Bool} (hsz : listed.size = L.length) (ho : L[j]? = some o) : j ∈ Region.ready .any L.toArray listed ↔ listed.getD j false = false ∧ ∀ k ∈ edges o, listed.getD k false = true := by
 have hlt : j < listed.size := by rw [hsz]; exact (List.getElem?_eq_some_iff.1 ho).1
 rw [mem_ready]
 have e : listed.getD j true = listed.getD j false := by simp [hlt]
 rw [e]
 refine and_congr_right fun _ => ⟨fun ⟨o', h1, h2⟩ k hk => ?_, fun h => ⟨o, by simpa using ho, fun e he hb => h _ (mem_edges he hb)⟩⟩
 obtain rfl : o' = o := by rw [List.getElem?_toArray, ho] at h1; exact (Option.some.inj h1).symm
 obtain ⟨e, he, hb, rfl⟩ := edges_mem hk
 exact h2 e he hb
theorem edges_add {o : Oper} {e : Nat} {k : Nat} (h : k ∈ edges o) : k ∈ edges { o with after := o.after.push ⟨e, .data⟩ } := by
 obtain ⟨x, hx, hb, rfl⟩ := edges_mem h
 exact mem_edges (by simp [hx]) hb
theorem edges_sub {o : Oper} {e : Nat} {k : Nat} (h : k ∈ edges { o with after := o.after.push ⟨e, .data⟩ }) : k ∈ edges o ∨ k = e := by
 obtain ⟨x, hx, hb, rfl⟩ := edges_mem h
 rcases Array.mem_push.1 hx with hx | rfl
 ·exact .inl (mem_edges hx hb)
 ·exact .inr rfl
theorem wpAny_float {P : Program} {Q : Exit → Act → World → Prop} {e : Nat} {L L' : List Oper} (hL : AddE e L L') (hb : floatB e L L' = true) (hQ : ∀ c a w, ¬ Q (.panic c) a w) (hQ' : ¬ LetsOut Q) : ∀ (f : Nat) (listed : Array Bool) (a : Act) (w : World), listed.size = L.length →
  (∀ j o, L[j]? = some o → listed.getD j false = true → ∀ k ∈ edges o, listed.getD k false = true) →
  wpAny P .any L'.toArray Q f listed a w → wpAny P .any L.toArray Q f listed a w := by
 obtain ⟨oe, oe', he, he', hb1, hb2, hb3, hb4, hb5, hb6⟩ : ∃ oe oe', L[e]? = some oe ∧ L'[e]? = some oe' ∧ (∃ x n, oe.op = .extract x n) ∧ oe.guard = none ∧ edges oe = edges oe' ∧ (∀ i o o', L[i]? = some o → L'[i]? = some o' → edges o = edges o' ∨ ∀ j ∈ edges oe, j ∈ edges o) ∧ (∀ j o, L[j]? = some o → j = e ∨ e ∈ edges o ∨ j ∈ edges oe ∨ oe.apart L.toArray o = true) ∧ ∀ o ∈ L, notSelect o.op = true := by
  unfold floatB at hb
  split at hb
  ·rename_i oe oe' he he'
   simp only [Bool.and_eq_true] at hb
   obtain ⟨⟨⟨⟨⟨h1, h2⟩, h3⟩, h4⟩, h5⟩, h6⟩ := hb
   refine ⟨oe, oe', he, he', ?_, by simpa using h2, by simpa using h3, fun i o o' ho ho' => ?_, fun j o ho => ?_, fun o ho => List.all_eq_true.1 h6 o ho⟩
   ·split at h1
    ·exact ⟨_, _, by assumption⟩
    ·cases h1
   ·have := List.all_eq_true.1 h4 i (List.mem_range.2 (List.getElem?_eq_some_iff.1 ho).1)
    rw [ho, ho'] at this
    simpa using this
   ·have := List.all_eq_true.1 h5 j (List.mem_range.2 (List.getElem?_eq_some_iff.1 ho).1)
    rw [ho] at this
    simp only [Bool.or_eq_true, beq_iff_eq] at this
    simp only [List.contains_iff_mem] at this
    rcases this with h | (h | h) | h
    ·exact .inl h
    ·exact .inr (.inl h)
    ·exact .inr (.inr (.inl h))
    ·exact .inr (.inr (.inr h))
  ·cases hb
 obtain ⟨x, n, hop⟩ := hb1
 have hlen := hL.length
 have hel : e < L.length := (List.getElem?_eq_some_iff.1 he).1
 have hsel : ∀ (j : Nat) (o : Oper) cs b, L.toArray[j]? = some o → o.op ≠ .select cs b := fun j o cs b ho h => by
  have := hb6 o (List.mem_of_getElem? (i := j) (by simpa using ho))
  rw [h] at this
  cases this
 intro f
 induction f with
 | zero =>
  intro listed a w hsz hcl h
  refine ⟨?_, h.2⟩
  have h1 := h.1
  refine List.eq_nil_iff_forall_not_mem.2 fun i hi => ?_
  obtain ⟨_, o, ho, _⟩ := mem_ready.1 hi
  have ho : L[i]? = some o := by simpa using ho
  obtain ⟨o', ho', hoo⟩ := hL.at i o ho
  have hi2 := (edges_of hsz ho).1 hi
  by_cases hr : i ∈ Region.ready .any L'.toArray listed
  ·rw [h1] at hr; cases hr
  ·have hr' : e ∈ Region.ready .any L'.toArray listed := by
    rw [edges_of (by rw [hsz, hlen]) ho'] at hr
    rw [edges_of (by rw [hsz, hlen]) he', ← hb3]
    rcases hb4 i o o' ho ho' with h | h
    ·exact absurd ⟨hi2.1, by rw [← h]; exact hi2.2⟩ hr
    ·refine ⟨?_, fun k hk => hi2.2 k (h k hk)⟩
     cases hg : listed.getD e false with
     | false => rfl
     | true =>
      refine absurd ⟨hi2.1, fun k hk => ?_⟩ hr
      rcases hoo with rfl | rfl
      ·exact hi2.2 k hk
      ·rcases edges_sub hk with hk | rfl
       ·exact hi2.2 k hk
       ·exact hg
   rw [h1] at hr'; cases hr'
 | succ f ih =>
  intro listed a w hsz hcl h
  by_cases hre : e ∈ Region.ready .any L.toArray listed
  ·have hre2 := (edges_of hsz he).1 hre
   have hre' : e ∈ Region.ready .any L'.toArray listed := (edges_of (by rw [hsz, hlen]) he').2 ⟨hre2.1, by rw [← hb3]; exact hre2.2⟩
   have h1 := h.2 e hre'
   obtain ⟨oe2, he2, hoo⟩ := hL.at e oe he
   obtain rfl : oe2 = oe' := Option.some.inj (he2.symm.trans he')
   have hex : execOp a.eval oe2 = execOp a.eval oe := by rcases hoo with rfl | rfl <;> rfl
   have hgd : oe2.guard = none := by rcases hoo with rfl | rfl <;> exact hb2
   have hds : oe2.dst = oe.dst := by rcases hoo with rfl | rfl <;> rfl
   unfold wpOp at h1
   rw [show L'.toArray[e]? = some oe2 by simpa using he'] at h1
   simp only [Region.wanted, hgd, if_true] at h1
   have h1 : oe2.wp P a w (wpAny P .any L'.toArray Q f (listed.setIfInBounds e true)) Q := h1.elim id fun h => absurd h.2 hQ'
   rcases extract_run (P := P) (a := a) hop with ⟨v, hv⟩ | hno
   ·have h2 : wpAny P .any L'.toArray Q f (listed.setIfInBounds e true) (a.put oe.dst v) w := by
     unfold Oper.wp at h1
     rw [hex, hv w, Oper.upon_value, hds] at h1
     exact h1
    refine wpAny_first (v := v) (show L.toArray[e]? = some oe by simpa using he) hsel (fun c a w h => absurd h (hQ c _ w)) f listed a w (fun j oj hj hne hun hno => ?_) hre (.inl ⟨by simp [Region.wanted, hb2], hv⟩) (ih _ _ _ (by simpa using hsz) (fun j o ho hl k hk => ?_) h2)
    ·have hj : L[j]? = some oj := by simpa using hj
     rcases hb5 j oj hj with h | h | h | h
     ·exact absurd h hne
     ·obtain ⟨x, hx, hbx, hxe⟩ := edges_mem h
      exact absurd hxe (hno x hx hbx)
     ·have := hre2.2 j h
      have hlt : j < listed.size := by rw [hsz]; exact (List.getElem?_eq_some_iff.1 hj).1
      simp [hlt] at this hun
      rw [this] at hun; cases hun
     ·exact h
    ·by_cases hje : j = e
     ·subst hje
      obtain rfl : o = oe := Option.some.inj (ho.symm.trans he)
      exact getD_set_true (hre2.2 k hk)
     ·rw [getD_set_ne false (fun h => hje h.symm)] at hl
      exact getD_set_true (hcl j o ho hl k hk)
   ·exfalso
    refine hno (wpAny P .any L'.toArray Q f (listed.setIfInBounds e true)) Q w ?_
    unfold Oper.wp at h1 ⊢
    rw [hex] at h1
    have : ∀ (r : Result Next), oe2.upon P a (wpAny P .any L'.toArray Q f (listed.setIfInBounds e true)) Q r = oe.upon P a (wpAny P .any L'.toArray Q f (listed.setIfInBounds e true)) Q r := fun r => by
     rcases hoo with rfl | rfl <;> rfl
    rwa [this] at h1
  ·have same : ∀ i, i ∈ Region.ready .any L.toArray listed ↔ i ∈ Region.ready .any L'.toArray listed := fun i => by
    by_cases hil : i < L.length
    ·have ho : L[i]? = some L[i] := List.getElem?_eq_getElem hil
     obtain ⟨o', ho', hoo⟩ := hL.at i _ ho
     rw [edges_of hsz ho, edges_of (by rw [hsz, hlen]) ho']
     refine and_congr_right fun hun => ⟨fun h k hk => ?_, fun h k hk => ?_⟩
     ·rcases hb4 i _ o' ho ho' with h' | h'
      ·exact h k (by rw [h']; exact hk)
      ·rcases hoo with rfl | rfl
       ·exact h k hk
       ·rcases edges_sub hk with hk | rfl
        ·exact h k hk
        ·cases hg : listed.getD k false with
         | true => rfl
         | false => exact absurd ((edges_of hsz he).2 ⟨hg, fun j hj => h j (h' j hj)⟩) hre
     ·rcases hoo with rfl | rfl
      ·exact h k hk
      ·exact h k (edges_add hk)
    ·constructor
     ·intro h
      obtain ⟨_, o, ho, _⟩ := mem_ready.1 h
      have := (Array.getElem?_eq_some_iff.1 ho).1
      simp at this
      exact absurd this hil
     ·intro h
      obtain ⟨_, o, ho, _⟩ := mem_ready.1 h
      have := (Array.getElem?_eq_some_iff.1 ho).1
      simp at this
      exact absurd (by omega) hil
   refine ⟨fun hn => h.1 (List.eq_nil_iff_forall_not_mem.2 fun i hi => ?_), fun i hi => ?_⟩
   ·have := (same i).2 hi
    rw [hn] at this; cases this
   ·have h1 := h.2 i ((same i).1 hi)
    obtain ⟨_, o, ho, _⟩ := mem_ready.1 hi
    have ho : L[i]? = some o := by simpa using ho
    obtain ⟨o', ho', hoo⟩ := hL.at i o ho
    have hi2 := (edges_of hsz ho).1 hi
    have hyl : ∀ t, yielded L'.toArray t = yielded L.toArray t := fun t => by
     funext j
     unfold yielded
     simp only [List.getElem?_toArray]
     cases hj : L[j]? with
     | none =>
      have : L'[j]? = none := by rw [List.getElem?_eq_none_iff] at hj ⊢; omega
      rw [this]
     | some oj =>
      obtain ⟨oj', hj', hjj⟩ := hL.at j oj hj
      rw [hj']
      rcases hjj with rfl | rfl <;> rfl
    have hcl2 : ∀ j o, L[j]? = some o → (listed.setIfInBounds i true).getD j false = true → ∀ k ∈ edges o, (listed.setIfInBounds i true).getD k false = true := fun j oj hoj hl k hk => by
     by_cases hji : j = i
     ·subst hji
      obtain rfl : oj = o := Option.some.inj (hoj.symm.trans ho)
      exact getD_set_true (hi2.2 k hk)
     ·rw [getD_set_ne false (fun h => hji h.symm)] at hl
      exact getD_set_true (hcl j oj hoj hl k hk)
    refine wpOp_mono (fun a w h => ih _ a w (by simpa using hsz) hcl2 h) ?_
    unfold wpOp at h1 ⊢
    rw [show L'.toArray[i]? = some o' by simpa using ho'] at h1
    rw [show L.toArray[i]? = some o by simpa using ho]
    rw [hyl] at h1
    rcases hoo with rfl | rfl
    ·exact h1
    ·exact h1
structure OnlyN (Q : Exit → AS → Prop) (e : Exit) (σ : AS) : Prop where
 how : e = .normal
 run : Q .normal σ
theorem OnlyN.mk' {Q : Exit → AS → Prop} {σ : AS} (h : Q .normal σ) : OnlyN Q .normal σ := ⟨rfl, h⟩
theorem DrawOk.float {P : Program} {s0 : GS} {n : Nat} {id : Nat} {e : Nat} {L L' : List Oper} {Q : Exit → AS → Prop} (hm : P.follows .mixedOrders = true) (hL : AddE e L L') (hb : floatB e L L' = true) : DrawOk P s0 n id L.toArray L' Q (OnlyN Q) := ⟨fun a w h => by
 have hfz : ∀ j, (Array.replicate L.toArray.size false).getD j false = false := fun j => by
  rcases Nat.lt_or_ge j L.length with h | h
  ·simp [h]
  ·simp [h]
 have hs : L'.toArray.size = L.toArray.size := by simp [hL.length]
 rw [hs] at h
 have hp : ∀ c a w, ¬ lift s0 n (OnlyN Q) (.panic c) a w := fun c a w ⟨σ, h, _⟩ => by have := h.how; cases this
 have hl : ¬ LetsOut (lift s0 n (OnlyN Q)) := fun ⟨a, w, σ, h, _⟩ => by have := h.how; cases this
 have h1 := wpAny_float hL hb hp hl _ _ _ _ (by simp) (fun j o _ hl => by rw [hfz] at hl; cases hl) h
 exact wp_mono (wp_region_any hm h1) fun ex a' w' ⟨σ, h, hs⟩ => by
  obtain ⟨rfl, h⟩ := h
  exact ⟨σ, h, hs⟩⟩
end Go.Proofs.YteicdddphdomkaaGreat
namespace Go.Proofs.YteicdddphdomkaaGreat
open Go.RowKit
set_option maxRecDepth 100000
theorem RTimes0_abs (c : Rat) (m : Nat → Int) (P : List Tm) (hc : c = 0) : Abs Tryz.prog 52 [agD (ratC c), agD (monC m), polD P] (tupD [polD [], ex (.int .i64 0)]) := by
 have hs := num_sign0.2 hc
 refine Abs.intro Tryz.func52 rfl (callFunc_run Tryz.func52 (by kernel_rfl) (by kernel_rfl)) rfl fun s0 => ?_
 rw [Tryz.ntmps52]
 repeat (first | apply AWp.seq | apply AWp.region | (apply Ga.box; refine AWs.bx (ao rfl) rfl rfl rfl rfl ?_) | (apply Ga.b0; refine AWs.b0 (tab_of rfl) (tab_of rfl) rfl rfl rfl rfl rfl ?_) | (refine AWs.q rfl rfl ?_; first | (apply Gt.assign; refine ⟨_, Qs.assign (ao rfl), ?_⟩) | (apply Gt.load; refine ⟨_, Qs.ldD (ao rfl) rfl (tab_of rfl) rfl rfl, ?_⟩) | (apply Gt.bin; refine ⟨_, Qs.cmpT rfl (ao rfl) (ao rfl) (by first | (simp only [cmpP, List.length_cons, List.length_nil]; omega) | (simp [cmpP]; done) | (simp [cmpP]; omega)), ?_⟩) | (apply Gt.callv; refine ⟨_, Qs.call (ao rfl) (RSign_abs c) (by first | ((repeat (first | exact ArgsLe.nil | refine ArgsLe.cons rfl (D.le.refl _) ?_ | refine ArgsLe.cons rfl D.le_nil ?_)); done) | fail), ?_⟩)) | apply AWl.nil | apply AThen.normal | apply AWp.ret | apply AThen.ret | (apply Gc.cond; refine AWp.condT (ao rfl) ?_))
 exact Fin.ret (Rets.of2 (ResV.tmp rfl rfl) (ResV.tmp rfl rfl) (D.le.tup2 (D.le_nilP) (D.le.refl _)))
theorem RTimes_abs (c : Rat) (m : Nat → Int) (P : List Tm) (N M : Nat) (hc : c ≠ 0) (hcs : RSz c N) (hm : In8 m 0 65535) (hP : PSz P M) (hPi : PIn P 0 65535) (hmP : ∀ t ∈ P, In8 (add8 m t.m) 0 65535) (hn : P.length ≤ 100000) (hNM : N + M ≤ 4398046511103) : Abs Tryz.prog 52 [agD (ratC c), agD (monC m), polD P] (tupD [polD (tms c m P), ex (.int .i64 0)]) := by
 have hs : c.num.sign ≠ 0 := fun e => hc (num_sign0.1 e)
 refine Abs.intro Tryz.func52 rfl (callFunc_run Tryz.func52 (by kernel_rfl) (by kernel_rfl)) rfl fun s0 => ?_
 rw [Tryz.ntmps52]
 repeat (first | apply AWp.seq | apply AWp.region | (apply Ga.box; refine AWs.bx (ao rfl) rfl rfl rfl rfl ?_) | (apply Ga.b0; refine AWs.b0 (tab_of rfl) (tab_of rfl) rfl rfl rfl rfl rfl ?_) | (refine AWs.q rfl rfl ?_; first | (apply Gt.assign; refine ⟨_, Qs.assign (ao rfl), ?_⟩) | (apply Gt.load; refine ⟨_, Qs.ldD (ao rfl) rfl (tab_of rfl) rfl rfl, ?_⟩) | (apply Gt.bin; refine ⟨_, Qs.cmpF rfl (ao rfl) (ao rfl) (by first | (simp only [cmpP, List.length_cons, List.length_nil]; omega) | (simp [cmpP]; done) | (simp [cmpP]; omega)), ?_⟩) | (apply Gt.callv; refine ⟨_, Qs.call (ao rfl) (RSign_abs c) (by first | ((repeat (first | exact ArgsLe.nil | refine ArgsLe.cons rfl (D.le.refl _) ?_ | refine ArgsLe.cons rfl D.le_nil ?_)); done) | fail), ?_⟩)) | apply AWl.nil | apply AThen.normal | apply AWp.block | apply AWp.skip | (apply Gc.cond; refine AWp.condF (ao rfl) ?_))
 refine AWp.loop (fun mz σ => ∃ k, k ≤ P.length ∧ mz = P.length - k ∧ σ = ⟨[(2, .d (polD P)), (3, .ptr 0 0), (4, .ptr 1 0), (8, .own 2), (9, .d (ex (.int .i64 (k : Nat))))], [.var 29 ((ratC c).map .d), .var 31 ((monC m).map .d), .row 33 12 ((tms c m (P.take k)).map tmC)]⟩) ?le ⟨0, by omega, rfl, rfl⟩ ?round
 case le => exact AS.le_of (by repeat (first | exact FrLe.nil | refine FrLe.cons rfl (AVle.d rfl) ?_ | refine FrLe.cons rfl (AVle.own rfl) ?_ | refine FrLe.cons rfl (AVle.ptr rfl) ?_)) (by repeat (first | exact HpLe.nil | refine HpLe.cons (OwLe.row rfl) ?_ | refine HpLe.cons (OwLe.varD rfl) ?_))
 case round =>
  rintro mz _ ⟨k, hk, rfl, rfl⟩
  by_cases hlt : k < P.length
  ·have ht := tAt_mem hlt
   have htk := take_tAt hlt
   repeat (first | apply AWp.seq | apply AWp.region | (refine AWs.q rfl rfl ?_; first | (apply Gt.move; refine ⟨_, Qs.move (ao rfl), ?_⟩) | (apply Gt.len; refine ⟨_, Qs.lenN rfl (tab_of rfl), ?_⟩) | (apply Gt.bin; refine ⟨_, Qs.cmpT rfl (ao rfl) (ao rfl) (by first | (simp only [cmpP, List.length_cons, List.length_nil]; omega) | (simp [cmpP]; done) | (simp [cmpP]; omega)), ?_⟩)) | apply AWl.nil | apply AThen.normal | apply AWp.block | apply AWp.skip | (apply Gc.cond; refine AWp.condT (ao rfl) ?_))
   refine AWp.dr' (DrawOk.float (e := 9) (by kernel_rfl) (AddE.keep (AddE.keep (AddE.keep (AddE.keep (AddE.keep (AddE.keep (AddE.keep (AddE.keep (AddE.keep (AddE.keep (AddE.keep (AddE.add (AddE.keep AddE.nil))))))))))))) (by kernel_rfl)) [[], [], [], [(24, 1), (25, 2)], [(26, 3)], [(27, 4)], [(23, 0), (28, 5)], [(29, 6)], [(22, 7)], [(22, 7)], []] [[], [], [], [1, 2], [1, 2, 3], [1, 2, 3, 4], [0, 1, 2, 3, 4, 5], [0, 1, 2, 3, 4, 5, 6], [0, 1, 2, 3, 4, 5, 6, 7], [0, 1, 2, 3, 4, 5, 6, 7], []] rfl (by kernel_rfl) (by kernel_rfl) (by kernel_rfl) ?_
   repeat (first | refine ⟨_, rfl, ?_⟩ | (apply Gh.alloc; refine ⟨_, HStep.n rfl (tab_of rfl) rfl (by decide) rfl, ?_⟩; refine ⟨_, rfl, ?_⟩) | (apply Gh.move; (refine ⟨_, HStep.q rfl (Qs.move (ah rfl)), ?_⟩; refine ⟨_, rfl, ?_⟩)) | (apply Gh.load; first | (refine ⟨_, HStep.q rfl (Qs.ldD (ah rfl) rfl (tab_of rfl) rfl rfl), ?_⟩; refine ⟨_, rfl, ?_⟩) | (refine ⟨_, HStep.q rfl (Qs.loadEf (ah rfl) (tab_of rfl) rfl rfl), ?_⟩; refine ⟨_, rfl, ?_⟩)) | (apply Gh.fieldAddr; (refine ⟨_, HStep.q rfl (Qs.fldE (ah rfl) (tab_of rfl) rfl (tab_of rfl) rfl rfl), ?_⟩; refine ⟨_, rfl, ?_⟩)) | (apply Gh.indexAddr; (refine ⟨_, HStep.q rfl (Qs.indexN rfl (ah rfl) (tab_of rfl) (tab_of rfl) rfl (by first | omega | (simp; omega))), ?_⟩; refine ⟨_, rfl, ?_⟩)) | (apply Gh.ext; (refine ⟨_, HStep.q rfl (Qs.ext (ah rfl) rfl), ?_⟩; refine ⟨_, rfl, ?_⟩)) | (apply Gh.callv; (refine ⟨_, HStep.q rfl (Qs.call (ah rfl) (RmMul_abs m (tAt P k).m hm (hPi _ ht) (hmP _ ht)) (by first | ((repeat (first | exact ArgsLe.nil | refine ArgsLe.cons rfl (D.le.refl _) ?_ | refine ArgsLe.cons rfl D.le_nil ?_)); done) | fail)), ?_⟩; refine ⟨_, rfl, ?_⟩)))
   repeat (first | apply AWp.seq | apply AWp.region | (apply Ga.store; refine AWs.stF (ao rfl) (ao rfl) rfl (tab_of rfl) rfl rfl rfl ?_) | (refine AWs.q rfl rfl ?_; first | (apply Gt.move; refine ⟨_, Qs.move (ao rfl), ?_⟩) | (apply Gt.assign; refine ⟨_, Qs.assign (ao rfl), ?_⟩) | (apply Gt.bin; refine ⟨_, Qs.cmpF rfl (ao rfl) (ao rfl) (by first | (simp only [cmpP, List.length_cons, List.length_nil]; omega) | (simp [cmpP]; done) | (simp [cmpP]; omega)), ?_⟩)) | apply OnlyN.mk' | apply AWl.nil | apply AThen.normal | apply AWp.skip | (apply Gc.cond; refine AWp.condF (ao rfl) ?_))
   refine AWp.dr' (DrawOk.self (by kernel_rfl)) [[], [], [], [], [(36, 2), (37, 3)], [(38, 4)], [(39, 5)], [(35, 1), (40, 6)], [], [(41, 7), (42, 8)], [(43, 9)]] [[], [], [], [], [2, 3], [2, 3, 4], [2, 3, 4, 5], [1, 2, 3, 4, 5, 6], [], [1, 2, 3, 4, 5, 6, 7, 8], [1, 2, 3, 4, 5, 6, 7, 8, 9]] rfl (by kernel_rfl) (by kernel_rfl) (by kernel_rfl) ?_
   repeat (first | refine ⟨_, rfl, ?_⟩ | (apply Gh.move; (refine ⟨_, HStep.q rfl (Qs.move (ah rfl)), ?_⟩; refine ⟨_, rfl, ?_⟩)) | (apply Gh.load; first | (refine ⟨_, HStep.q rfl (Qs.ldD (ah rfl) rfl (tab_of rfl) rfl rfl), ?_⟩; refine ⟨_, rfl, ?_⟩) | (refine ⟨_, HStep.q rfl (Qs.ldE (ah rfl) (tab_of rfl) rfl rfl), ?_⟩; refine ⟨_, rfl, ?_⟩)) | (apply Gh.fieldAddr; (refine ⟨_, HStep.q rfl (Qs.fldE (ah rfl) (tab_of rfl) rfl (tab_of rfl) rfl rfl), ?_⟩; refine ⟨_, rfl, ?_⟩)) | (apply Gh.indexAddr; (refine ⟨_, HStep.q rfl (Qs.indexN rfl (ah rfl) (tab_of rfl) (tab_of rfl) rfl (by first | omega | (simp; omega))), ?_⟩; refine ⟨_, rfl, ?_⟩)) | (apply Gh.bslice; (refine ⟨_, HStep.q rfl (Bq.slice1 (ah rfl) (tab_of rfl) (tab_of rfl) rfl rfl rfl rfl rfl), ?_⟩; refine ⟨_, rfl, ?_⟩)) | (apply Gh.build; (refine Hq rfl ?_; refine Bq.build (tab_of rfl) rfl rfl rfl ?_; (repeat ((first | refine ⟨_, PartOk.ag (ah rfl), ?_⟩ | refine ⟨_, PartOk.one rfl (by first | exact One.ex_ rfl | exact One.sl | exact One.ep), ?_⟩); refine ⟨_, rfl, ?_⟩)); refine ⟨_, rfl, ?_⟩; refine ⟨_, rfl, ?_⟩)) | (apply Gh.callv; (refine ⟨_, HStep.q rfl (Qs.call (ah rfl) (RMul_abs c (tAt P k).c N M hcs (hP _ ht) hNM) (by first | ((repeat (first | exact ArgsLe.nil | refine ArgsLe.cons rfl (D.le.refl _) ?_ | refine ArgsLe.cons rfl D.le_nil ?_)); done) | fail)), ?_⟩; refine ⟨_, rfl, ?_⟩)))
   repeat (first | apply AWp.region | (apply Ga.app; refine AWs.app (ao rfl) rfl rfl (tab_of rfl) (tab_of rfl) rfl rfl (by simp; omega) (by simp; omega) rfl (by first | ((repeat (first | exact PlainHp.nil | refine PlainHp.var ?_ | refine PlainHp.row ?_ | refine PlainHp.dead ?_)); done) | fail) rfl ?_) | (refine AWs.q rfl rfl ?_; first | (apply Gt.move; refine ⟨_, Qs.move (ao rfl), ?_⟩) | (apply Gt.assign; refine ⟨_, Qs.assign (ao rfl), ?_⟩) | (apply Gt.add; refine ⟨_, Qs.succ (ao rfl) (ao rfl) (by omega), ?_⟩)) | apply AWl.nil | apply AThen.normal | apply ABlock.normal)
   refine ALoop.next (P.length - (k + 1)) (by omega) ⟨k + 1, by omega, rfl, rfl⟩ ?_
   exact AS.le_of (by repeat (first | exact FrLe.nil | refine FrLe.cons rfl (AVle.d rfl) ?_ | refine FrLe.cons rfl (AVle.own rfl) ?_ | refine FrLe.cons rfl (AVle.ptr rfl) ?_)) (by repeat (first | exact HpLe.nil | refine HpLe.cons (OwLe.row ((map_snoc tmC _ ⟨c * (tAt P k).c, add8 m (tAt P k).m⟩).trans (by rw [← htk]; simp [tms]))) ?_ | refine HpLe.cons (OwLe.varD rfl) ?_))
  ·obtain rfl : k = P.length := by omega
   repeat (first | apply AWp.seq | apply AWp.region | (refine AWs.q rfl rfl ?_; first | (apply Gt.move; refine ⟨_, Qs.move (ao rfl), ?_⟩) | (apply Gt.assign; refine ⟨_, Qs.assign (ao rfl), ?_⟩) | (apply Gt.len; refine ⟨_, Qs.lenN rfl (tab_of rfl), ?_⟩) | (apply Gt.bin; refine ⟨_, Qs.cmpF rfl (ao rfl) (ao rfl) (by first | (simp only [cmpP, List.length_cons, List.length_nil]; omega) | (simp [cmpP]; done) | (simp [cmpP]; omega)), ?_⟩)) | apply AWl.nil | apply AThen.normal | apply AWp.exit | apply AWp.ret | apply AThen.exit | apply ABlock.hit | apply ALoop.exit | (apply Gc.cond; refine AWp.condF (ao rfl) ?_))
   exact Fin.ret (Rets.of2 (ResV.tmp rfl rfl) (ResV.tmp rfl rfl) (D.le.tup2 (D.le.of_eq (by rw [List.take_length]; rfl)) (D.le.refl _)))
def sclL (c : Rat) (P : List Tm) : List Tm := if c = 0 then [] else tms c (fun _ => 0) P
theorem RScale_abs (c : Rat) (P : List Tm) (N M : Nat) (hcs : RSz c N) (hP : PSz P M) (hPi : PIn P 0 65535) (hn : P.length ≤ 100000) (hNM : N + M ≤ 4398046511103) : Abs Tryz.prog 104 [agD (ratC c), polD P] (polD (sclL c P)) := by
 by_cases hc : c = 0
 ·refine Abs.intro Tryz.func104 rfl (callFunc_run Tryz.func104 (by kernel_rfl) (by kernel_rfl)) rfl fun s0 => ?_
  rw [Tryz.ntmps104]
  repeat (first | apply AWp.seq | apply AWp.region | (apply Ga.box; refine AWs.bx (ao rfl) rfl rfl rfl rfl ?_) | (refine AWs.q rfl rfl ?_; first | (apply Gt.move; refine ⟨_, Qs.move (ao rfl), ?_⟩) | (apply Gt.assign; refine ⟨_, Qs.assign (ao rfl), ?_⟩) | (apply Gt.load; refine ⟨_, Qs.ldD (ao rfl) rfl (tab_of rfl) rfl rfl, ?_⟩) | (apply Gt.ext; refine ⟨_, Qs.ext (ao rfl) rfl, ?_⟩) | (apply Gt.build; (refine Bq.arr (tab_of rfl) (tab_of rfl) rfl rfl ?_; (repeat ((first | refine ⟨_, PartOk.ag (ao rfl), ?_⟩ | refine ⟨_, PartOk.one rfl (by first | exact One.ex_ rfl | exact One.sl | exact One.ep), ?_⟩); refine ⟨_, rfl, ?_⟩)); refine ⟨_, rfl, ?_⟩)) | (apply Gt.callv; refine ⟨_, Qs.call (ao rfl) (RTimes0_abs c (fun _ => 0) P hc) (by first | ((repeat (first | exact ArgsLe.nil | refine ArgsLe.cons rfl (D.le.refl _) ?_ | refine ArgsLe.cons rfl D.le_nil ?_)); done) | fail), ?_⟩)) | apply AWl.nil | apply AThen.normal | apply AWp.ret)
  exact Fin.ret (Rets.of1 (ResV.tmp rfl rfl) (D.le_pol (by rw [sclL, if_pos hc])))
 ·refine Abs.intro Tryz.func104 rfl (callFunc_run Tryz.func104 (by kernel_rfl) (by kernel_rfl)) rfl fun s0 => ?_
  rw [Tryz.ntmps104]
  repeat (first | apply AWp.seq | apply AWp.region | (apply Ga.box; refine AWs.bx (ao rfl) rfl rfl rfl rfl ?_) | (refine AWs.q rfl rfl ?_; first | (apply Gt.move; refine ⟨_, Qs.move (ao rfl), ?_⟩) | (apply Gt.assign; refine ⟨_, Qs.assign (ao rfl), ?_⟩) | (apply Gt.load; refine ⟨_, Qs.ldD (ao rfl) rfl (tab_of rfl) rfl rfl, ?_⟩) | (apply Gt.ext; refine ⟨_, Qs.ext (ao rfl) rfl, ?_⟩) | (apply Gt.build; (refine Bq.arr (tab_of rfl) (tab_of rfl) rfl rfl ?_; (repeat ((first | refine ⟨_, PartOk.ag (ao rfl), ?_⟩ | refine ⟨_, PartOk.one rfl (by first | exact One.ex_ rfl | exact One.sl | exact One.ep), ?_⟩); refine ⟨_, rfl, ?_⟩)); refine ⟨_, rfl, ?_⟩)) | (apply Gt.callv; refine ⟨_, Qs.call (ao rfl) (RTimes_abs c (fun _ => 0) P N M hc hcs In8.zero hP hPi (fun t ht => by rw [zero_add8]; exact hPi t ht) hn hNM) (by first | ((repeat (first | exact ArgsLe.nil | refine ArgsLe.cons rfl (D.le.refl _) ?_ | refine ArgsLe.cons rfl D.le_nil ?_)); done) | fail), ?_⟩)) | apply AWl.nil | apply AThen.normal | apply AWp.ret)
  exact Fin.ret (Rets.of1 (ResV.tmp rfl rfl) (D.le_pol (by rw [sclL, if_neg hc])))
theorem tms_psz {c : Rat} {m : Nat → Int} {P : List Tm} {N M : Nat} (hc : RSz c N) (hP : PSz P M) : PSz (tms c m P) (N + M) := fun t ht => by
 obtain ⟨s, hs, rfl⟩ := List.mem_map.1 ht
 exact hc.mul (hP s hs)
theorem sclL_psz {c : Rat} {P : List Tm} {N M : Nat} (hc : RSz c N) (hP : PSz P M) : PSz (sclL c P) (N + M) := by
 unfold sclL
 split
 ·intro t ht; cases ht
 ·exact tms_psz hc hP
theorem sclL_length (c : Rat) (P : List Tm) : (sclL c P).length ≤ P.length := by
 unfold sclL
 split <;> simp
theorem rsz_sm {x : Int} (h0 : -1000 ≤ x) (h1 : x ≤ 1000) : RSz ((x : Int) : Rat) 1 := by
 refine ⟨?_, ?_⟩
 ·show (digs (x : Int).natAbs).length ≤ 1
  exact len_of_lt (by simp only [BB, Nat.pow_one]; omega)
 ·show (digs 1).length ≤ 1
  exact len_of_lt (by simp only [BB, Nat.pow_one]; omega)
theorem RSub_abs (P Q : List Tm) (N M : Nat) (hP : PSz P N) (hQ : PSz Q M) (hQi : PIn Q 0 65535) (hNM : N + M + 2 ≤ 4398046511103) (hn : P.length + Q.length ≤ 100000) : Abs Tryz.prog 57 [polD P, polD Q] (polD (mrg P (sclL (-1 : Int) Q))) := by
 have h1 : RSz ((-1 : Int) : Rat) 1 := rsz_sm (by omega) (by omega)
 have hl := sclL_length (-1 : Int) Q
 refine Abs.intro Tryz.func57 rfl (callFunc_run Tryz.func57 (by kernel_rfl) (by kernel_rfl)) rfl fun s0 => ?_
 rw [Tryz.ntmps57]
 repeat (first | apply AWp.seq | apply AWp.region | (refine AWs.q rfl rfl ?_; first | (apply Gt.move; refine ⟨_, Qs.move (ao rfl), ?_⟩) | (apply Gt.assign; refine ⟨_, Qs.assign (ao rfl), ?_⟩) | (apply Gt.callv; first | refine ⟨_, Qs.call (ao rfl) (RWhole_abs (-1) (by omega) (by omega)) (by first | ((repeat (first | exact ArgsLe.nil | refine ArgsLe.cons rfl (D.le.refl _) ?_ | refine ArgsLe.cons rfl D.le_nil ?_)); done) | fail), ?_⟩ | refine ⟨_, Qs.call (ao rfl) (RScale_abs (-1 : Int) Q 1 M h1 hQ hQi (by omega) (by omega)) (by first | ((repeat (first | exact ArgsLe.nil | refine ArgsLe.cons rfl (D.le.refl _) ?_ | refine ArgsLe.cons rfl D.le_nil ?_)); done) | fail), ?_⟩ | refine ⟨_, Qs.call (ao rfl) (RAdd_pol P (sclL (-1 : Int) Q) N (1 + M) hP (sclL_psz h1 hQ) (by omega) (by omega)) (by first | ((repeat (first | exact ArgsLe.nil | refine ArgsLe.cons rfl (D.le.refl _) ?_ | refine ArgsLe.cons rfl D.le_nil ?_)); done) | fail), ?_⟩)) | apply AWl.nil | apply AThen.normal | apply AWp.ret)
 exact Fin.ret (Rets.of1 (ResV.tmp rfl rfl) (D.le.refl _))
end Go.Proofs.YteicdddphdomkaaGreat
namespace Go.Proofs.YteicdddphdomkaaGreat
open Go.RowKit
theorem Canon.nil : Canon [] := ⟨List.Pairwise.nil, fun t h => by cases h⟩
theorem Canon.single {t : Tm} (h : t.c ≠ 0) : Canon [t] := ⟨List.pairwise_singleton _ _, fun u hu => by rw [List.mem_singleton.1 hu]; exact h⟩
theorem mrg_psz {N M : Nat} : ∀ {P Q : List Tm}, PSz P N → PSz Q M → PSz (mrg P Q) (N + M + 1)
 | [], Q, _, h => by simp only [mrg]; exact h.mono (by omega)
 | s :: P, [], h, _ => by simp only [mrg]; exact h.mono (by omega)
 | s :: P, t :: Q, hP, hQ => by
  have hP' : PSz P N := fun u hu => hP u (by simp [hu])
  have hQ' : PSz Q M := fun u hu => hQ u (by simp [hu])
  have con : ∀ {x : Tm} {L : List Tm}, RSz x.c (N + M + 1) → PSz L (N + M + 1) → PSz (x :: L) (N + M + 1) := fun h1 h2 u hu => by
   rcases List.mem_cons.1 hu with rfl | hu
   ·exact h1
   ·exact h2 u hu
  rw [mrg]
  split
  ·exact con ((hP s (by simp)).mono (by omega)) (mrg_psz hP' hQ)
  ·split
   ·exact con ((hQ t (by simp)).mono (by omega)) (mrg_psz hP hQ')
   ·split
    ·exact mrg_psz hP' hQ'
    ·exact con ((hP s (by simp)).add (hQ t (by simp))) (mrg_psz hP' hQ')
termination_by P Q => P.length + Q.length
theorem mrg_pin {P Q : List Tm} {a b : Int} (hP : PIn P a b) (hQ : PIn Q a b) : PIn (mrg P Q) a b := fun u hu => by
 rcases mrg_mem P Q u hu with ⟨s, hs, e⟩ | ⟨s, hs, e⟩
 ·rw [← e]; exact hP s hs
 ·rw [← e]; exact hQ s hs
theorem SameL.symm : ∀ {P Q : List Tm}, SameL P Q → SameL Q P
 | [], [], _ => trivial
 | _ :: _, _ :: _, h => ⟨h.1.symm, h.2.1.symm, SameL.symm h.2.2⟩
 | [], _ :: _, h => h.elim
 | _ :: _, [], h => h.elim
structure PB (P : List Tm) (n N : Nat) (d : Int) : Prop where
 can : Canon P
 len : P.length ≤ n
 sz : PSz P N
 ex : PIn P 0 d
theorem PB.mono {P : List Tm} {n N n' N' : Nat} {d d' : Int} (h : PB P n N d) (h1 : n ≤ n') (h2 : N ≤ N') (h3 : d ≤ d') : PB P n' N' d' := ⟨h.can, Nat.le_trans h.len h1, h.sz.mono h2, h.ex.mono (Int.le_refl _) h3⟩
theorem PB.nil {n N : Nat} {d : Int} : PB [] n N d := ⟨Canon.nil, Nat.zero_le _, fun t h => (by cases h), fun t h => (by cases h)⟩
theorem PB.add {P Q : List Tm} {n N n' N' : Nat} {d d' : Int} (h : PB P n N d) (k : PB Q n' N' d') : PB (mrg P Q) (n + n') (N + N' + 1) (max d d') :=
 ⟨mrg_canon h.can k.can, by have := mrg_length P Q; have := h.len; have := k.len; omega, mrg_psz h.sz k.sz, mrg_pin (h.ex.mono (Int.le_refl _) (by omega)) (k.ex.mono (Int.le_refl _) (by omega))⟩
def neg (P : List Tm) : List Tm := P.map (fT fun q => -q)
theorem dec_map {f : Tm → Tm} {P : List Tm} (h : Dec P) (hf : ∀ s ∈ P, ∀ t ∈ P, 0 < lx s.m t.m → 0 < lx (f s).m (f t).m) : Dec (P.map f) := by
 refine List.pairwise_map.2 (List.Pairwise.imp_of_mem (fun {a b} ha hb hab => hf a ha b hb hab) h)
theorem neg_canon {P : List Tm} (h : Canon P) : Canon (neg P) := ⟨dec_map h.1 fun _ _ _ _ h => h, fun t ht => by
 obtain ⟨s, hs, rfl⟩ := List.mem_map.1 ht
 intro e
 have e : -s.c = 0 := e
 exact h.2 s hs (by grind)⟩
theorem PB.neg {P : List Tm} {n N : Nat} {d : Int} (h : PB P n N d) : PB (neg P) n N d := ⟨neg_canon h.can, by rw [Go.Proofs.YteicdddphdomkaaGreat.neg, List.length_map]; exact h.len, fun t ht => by
 obtain ⟨s, hs, rfl⟩ := List.mem_map.1 ht
 exact (h.sz s hs).neg, fun t ht => by
 obtain ⟨s, hs, rfl⟩ := List.mem_map.1 ht
 exact h.ex s hs⟩
theorem neg_dot (f : (Nat → Int) → Rat) : ∀ P : List Tm, dot f (neg P) = -dot f P
 | [] => by simp [neg, dot]
 | t :: P => by
  have := neg_dot f P
  simp only [neg, List.map_cons, dot, fT] at this ⊢
  rw [this]; grind
def psub (P Q : List Tm) : List Tm := mrg P (neg Q)
theorem PB.sub {P Q : List Tm} {n N n' N' : Nat} {d d' : Int} (h : PB P n N d) (k : PB Q n' N' d') : PB (psub P Q) (n + n') (N + N' + 1) (max d d') := h.add k.neg
theorem rat_mul_ne {a b : Rat} (ha : a ≠ 0) (hb : b ≠ 0) : a * b ≠ 0 := fun e => by
 rcases Rat.mul_eq_zero.1 e with h | h
 ·exact ha h
 ·exact hb h
theorem tms_canon {c : Rat} {m : Nat → Int} {P : List Tm} (hc : c ≠ 0) (h : Canon P) : Canon (tms c m P) := ⟨dec_map h.1 fun s _ t _ h => by
 show 0 < lx (add8 m s.m) (add8 m t.m)
 rwa [add8_comm m, add8_comm m, lx_add], fun t ht => by
 obtain ⟨s, hs, rfl⟩ := List.mem_map.1 ht
 exact rat_mul_ne hc (h.2 s hs)⟩
theorem add8_in {a b : Nat → Int} {d e : Int} (ha : In8 a 0 d) (hb : In8 b 0 e) : In8 (add8 a b) 0 (d + e) := fun i hi => by
 have := ha i hi
 have := hb i hi
 simp only [add8]
 omega
theorem tms_pb {t : Tm} {P : List Tm} {n N N0 : Nat} {d d0 : Int} (h : PB P n N d) (hc : t.c ≠ 0) (hs : RSz t.c N0) (hm : In8 t.m 0 d0) : PB (tms t.c t.m P) n (N0 + N) (d0 + d) :=
 ⟨tms_canon hc h.can, by rw [tms_length]; exact h.len, tms_psz hs h.sz, fun u hu => by
  obtain ⟨s, hs, rfl⟩ := List.mem_map.1 hu
  exact add8_in hm (h.ex s hs)⟩
def mulTo (A P Q : List Tm) : List Tm := P.foldl (fun a s => mrg a (tms s.c s.m Q)) A
def pmul (P Q : List Tm) : List Tm := mulTo [] P Q
theorem mulTo_pb {Q : List Tm} {n' N' N : Nat} {d d' : Int} (hQ : PB Q n' N' d') : ∀ {P A : List Tm} {k K : Nat}, (∀ t ∈ P, t.c ≠ 0) → PSz P N → PIn P 0 d → PB A k K (d + d') → PB (mulTo A P Q) (k + P.length * n') (K + P.length * (N + N' + 1)) (d + d')
 | [], A, k, K, _, _, _, h => by simpa [mulTo] using h
 | t :: P, A, k, K, h1, h2, h3, h => by
  have ht := tms_pb (t := t) (d0 := d) hQ (h1 t (by simp)) (h2 t (by simp)) (h3 t (by simp))
  have h4 : PB (mrg A (tms t.c t.m Q)) (k + n') (K + (N + N' + 1)) (d + d') := (h.add ht).mono (Nat.le_refl _) (by omega) (by omega)
  have := mulTo_pb hQ (P := P) (fun u hu => h1 u (by simp [hu])) (fun u hu => h2 u (by simp [hu])) (fun u hu => h3 u (by simp [hu])) h4
  refine this.mono ?_ ?_ (Int.le_refl _)
  ·rw [List.length_cons, Nat.succ_mul]; omega
  ·rw [List.length_cons, Nat.succ_mul]; omega
theorem mulTo_sim {Q : List Tm} : ∀ {P A : List Tm}, Sim (mulTo A P Q) (A ++ mulL P Q)
 | [], A => by simp only [mulTo, mulL, List.foldl_nil, List.flatMap_nil, List.append_nil]; exact Sim.refl _
 | t :: P, A => by
  refine (mulTo_sim (P := P) (A := mrg A (tms t.c t.m Q))).trans ?_
  refine ((mrg_sim _ _).append (Sim.refl _)).trans ?_
  simp only [mulL, List.flatMap_cons, tms, List.append_assoc]
  exact Sim.refl _
theorem pmul_sim (P Q : List Tm) : Sim (pmul P Q) (mulL P Q) := mulTo_sim
theorem PB.mul {P Q : List Tm} {n N n' N' : Nat} {d d' : Int} (h : PB P n N d) (k : PB Q n' N' d') (h0 : 0 ≤ d) (h0' : 0 ≤ d') : PB (pmul P Q) (n * n') (n * (N + N' + 1)) (d + d') := by
 have := mulTo_pb (A := []) (k := 0) (K := 0) (d := d) k h.can.2 h.sz h.ex PB.nil
 refine this.mono ?_ ?_ (Int.le_refl _)
 ·rw [Nat.zero_add]; exact Nat.mul_le_mul_right _ h.len
 ·rw [Nat.zero_add]; exact Nat.mul_le_mul_right _ h.len
theorem polD_sim {P Q : List Tm} (hP : Canon P) (hQ : Canon Q) (h : Sim P Q) : polD P = polD Q := polD_same (canon_unique hP hQ h)
theorem neg_sim {P Q : List Tm} (h : Sim P Q) : Sim (neg P) (neg Q) := fun f hf => by rw [neg_dot, neg_dot, h f hf]
theorem PB.same {P Q : List Tm} {n N : Nat} {d : Int} (h : PB P n N d) (hs : SameL P Q) : PB Q n N d := by
 have key : ∀ {P Q : List Tm}, SameL P Q → ∀ t ∈ Q, ∃ s ∈ P, s.c = t.c ∧ Eqv s.m t.m := by
  intro P
  induction P with
  | nil => intro Q h t ht; cases Q with
   | nil => cases ht
   | cons => exact h.elim
  | cons s P ih => intro Q h t ht; cases Q with
   | nil => exact h.elim
   | cons u Q =>
    rcases List.mem_cons.1 ht with rfl | ht
    ·exact ⟨s, by simp, h.1, h.2.1⟩
    ·obtain ⟨x, hx, e⟩ := ih h.2.2 t ht
     exact ⟨x, by simp [hx], e⟩
 have dec : ∀ {P Q : List Tm}, SameL P Q → Dec P → Dec Q := by
  intro P
  induction P with
  | nil => intro Q h _; cases Q with
   | nil => exact List.Pairwise.nil
   | cons => exact h.elim
  | cons s P ih => intro Q h hd; cases Q with
   | nil => exact h.elim
   | cons u Q =>
    have hd := List.pairwise_cons.1 hd
    refine List.pairwise_cons.2 ⟨fun t ht => ?_, ih h.2.2 hd.2⟩
    obtain ⟨x, hx, _, e⟩ := key h.2.2 t ht
    rw [← lx_congr h.2.1 e]
    exact hd.1 x hx
 refine ⟨⟨dec hs h.can.1, fun t ht => ?_⟩, by rw [← hs.length]; exact h.len, fun t ht => ?_, fun t ht => ?_⟩
 ·obtain ⟨s, hs, e, _⟩ := key hs t ht
  rw [← e]; exact h.can.2 s hs
 ·obtain ⟨s, hs, e, _⟩ := key hs t ht
  rw [← e]; exact h.sz s hs
 ·obtain ⟨s, hs, _, e⟩ := key hs t ht
  intro i hi
  rw [← e i hi]; exact h.ex s hs i hi
theorem constL_pb {c : Rat} {N : Nat} (h : RSz c N) {d : Int} (hd : 0 ≤ d) : PB (constL c) 1 N d := by
 unfold constL
 split
 ·exact PB.nil
 ·rename_i hc
  refine ⟨Canon.single hc, by simp, fun t ht => by rw [List.mem_singleton.1 ht]; exact h, fun t ht => by rw [List.mem_singleton.1 ht]; exact fun i hi => ⟨Int.le_refl _, hd⟩⟩
theorem PB.single {t : Tm} {N : Nat} {d : Int} (h : t.c ≠ 0) (hs : RSz t.c N) (hm : In8 t.m 0 d) : PB [t] 1 N d := ⟨Canon.single h, by simp, fun u hu => by rw [List.mem_singleton.1 hu]; exact hs, fun u hu => by rw [List.mem_singleton.1 hu]; exact hm⟩
theorem unitE_in {i : Nat} : In8 (unitE i) 0 1 := fun j _ => by
 unfold unitE setM
 split
 ·omega
 ·exact ⟨Int.le_refl _, (by show (0 : Int) ≤ 1; omega)⟩
end Go.Proofs.YteicdddphdomkaaGreat
namespace Go.Proofs.YteicdddphdomkaaGreat
open Go.RowKit
set_option maxRecDepth 100000
theorem mulTo_take {P Q A : List Tm} {k : Nat} (h : k < P.length) : mulTo A (P.take (k + 1)) Q = mrg (mulTo A (P.take k) Q) (tms (tAt P k).c (tAt P k).m Q) := foldl_tAt (fun a s => mrg a (tms s.c s.m Q)) A h
theorem mulTo_take_pb {P Q : List Tm} {n N n' N' : Nat} {d d' : Int} (h : PB P n N d) (hQ : PB Q n' N' d') (h0 : 0 ≤ d) (h0' : 0 ≤ d') (k : Nat) : PB (mulTo [] (P.take k) Q) (n * n') (n * (N + N' + 1)) (d + d') := by
 have := mulTo_pb (A := []) (k := 0) (K := 0) (d := d) (P := P.take k) hQ (fun t ht => h.can.2 t (List.mem_of_mem_take ht)) (fun t ht => h.sz t (List.mem_of_mem_take ht)) (fun t ht => h.ex t (List.mem_of_mem_take ht)) PB.nil
 have hl : (P.take k).length ≤ n := Nat.le_trans (by rw [List.length_take]; omega) h.len
 refine this.mono ?_ ?_ (Int.le_refl _)
 ·rw [Nat.zero_add]; exact Nat.mul_le_mul_right _ hl
 ·rw [Nat.zero_add]; exact Nat.mul_le_mul_right _ hl
theorem RPMul_pb {P Q : List Tm} {n N n' N' : Nat} {d d' : Int} (hP : PB P n N d) (hQ : PB Q n' N' d') (h0 : 0 ≤ d) (h0' : 0 ≤ d') (hd : d + d' ≤ 65535) (hn0 : n ≤ 100000) (hn : n * n' + n' ≤ 100000) (hN : n * (N + N' + 1) + N + N' + 1 ≤ 4398046511102) : Abs Tryz.prog 115 [polD P, polD Q] (tupD [polD (pmul P Q), ex (.int .i64 0)]) := by
 have hPl := hP.len
 have hQl := hQ.len
 refine Abs.intro Tryz.func115 rfl (callFunc_run Tryz.func115 (by kernel_rfl) (by kernel_rfl)) rfl fun s0 => ?_
 rw [Tryz.ntmps115]
 repeat (first | apply AWp.seq | apply AWp.region | (apply Ga.b0; refine AWs.b0 (tab_of rfl) (tab_of rfl) rfl rfl rfl rfl rfl ?_) | (refine AWs.q rfl rfl ?_; (apply Gt.assign; refine ⟨_, Qs.assign (ao rfl), ?_⟩)) | apply AWl.nil | apply AThen.normal | apply AWp.block)
 refine AWp.loop (fun mz σ => ∃ k, k ≤ P.length ∧ mz = P.length - k ∧ σ = ⟨[(0, .d (polD P)), (1, .d (polD Q)), (6, .d (polD (mulTo [] (P.take k) Q))), (7, .d (ex (.int .i64 (k : Nat))))], []⟩) ?le ⟨0, by omega, rfl, rfl⟩ ?round
 case le => exact AS.le_of (by repeat (first | exact FrLe.nil | refine FrLe.cons rfl (AVle.d rfl) ?_ | refine FrLe.cons rfl (AVle.ownD rfl (D.le.refl _)) ?_)) (by repeat (exact HpLe.nil))
 case round =>
  rintro mz _ ⟨k, hk, rfl, rfl⟩
  by_cases hlt : k < P.length
  ·have ht := tAt_mem hlt
   have hm := hP.ex _ ht
   have hb := mulTo_take_pb hP hQ h0 h0' k
   have hbl := hb.len
   have ht2 := tms_pb (t := tAt P k) hQ (hP.can.2 _ ht) (hP.sz _ ht) hm
   have ht2l := ht2.len
   repeat (first | apply AWp.seq | apply AWp.region | (refine AWs.q rfl rfl ?_; first | (apply Gt.move; refine ⟨_, Qs.move (ao rfl), ?_⟩) | (apply Gt.len; refine ⟨_, Qs.lenN rfl (tab_of rfl), ?_⟩) | (apply Gt.bin; refine ⟨_, Qs.cmpT rfl (ao rfl) (ao rfl) (by first | (simp only [cmpP, List.length_cons, List.length_nil]; omega) | (simp [cmpP]; done) | (simp [cmpP]; omega)), ?_⟩)) | apply AWl.nil | apply AThen.normal | apply AWp.block | apply AWp.skip | (apply Gc.cond; refine AWp.condT (ao rfl) ?_))
   refine AWp.dr' (DrawOk.float (e := 14) (by kernel_rfl) (AddE.keep (AddE.keep (AddE.keep (AddE.keep (AddE.keep (AddE.keep (AddE.keep (AddE.keep (AddE.keep (AddE.keep (AddE.keep (AddE.keep (AddE.keep (AddE.keep (AddE.keep (AddE.add (AddE.keep AddE.nil))))))))))))))))) (by kernel_rfl)) [[], [], [(18, 0), (19, 1)], [(20, 2)], [(21, 3)], [], [], [(23, 5), (24, 6)], [(25, 7)], [(26, 8)], [], [(22, 4), (27, 9), (28, 10)], [(29, 11)], [(17, 12)], [(17, 12)]] [[], [], [0, 1], [0, 1, 2], [0, 1, 2, 3], [], [], [5, 6], [5, 6, 7], [5, 6, 7, 8], [], [0, 1, 2, 3, 4, 5, 6, 7, 8, 9, 10], [0, 1, 2, 3, 4, 5, 6, 7, 8, 9, 10, 11], [0, 1, 2, 3, 4, 5, 6, 7, 8, 9, 10, 11, 12], [0, 1, 2, 3, 4, 5, 6, 7, 8, 9, 10, 11, 12]] rfl (by kernel_rfl) (by kernel_rfl) (by kernel_rfl) ?_
   repeat (first | refine ⟨_, rfl, ?_⟩ | (apply Gh.move; (refine ⟨_, HStep.q rfl (Qs.move (ah rfl)), ?_⟩; refine ⟨_, rfl, ?_⟩)) | (apply Gh.load; first | (refine ⟨_, HStep.q rfl (Qs.loadEf (ah rfl) (tab_of rfl) rfl rfl), ?_⟩; refine ⟨_, rfl, ?_⟩) | (refine ⟨_, HStep.q rfl (Qs.ldE (ah rfl) (tab_of rfl) rfl rfl), ?_⟩; refine ⟨_, rfl, ?_⟩)) | (apply Gh.fieldAddr; (refine ⟨_, HStep.q rfl (Qs.fldE (ah rfl) (tab_of rfl) rfl (tab_of rfl) rfl rfl), ?_⟩; refine ⟨_, rfl, ?_⟩)) | (apply Gh.indexAddr; (refine ⟨_, HStep.q rfl (Qs.indexN rfl (ah rfl) (tab_of rfl) (tab_of rfl) rfl (by first | omega | (simp; omega))), ?_⟩; refine ⟨_, rfl, ?_⟩)) | (apply Gh.ext; (refine ⟨_, HStep.q rfl (Qs.ext (ah rfl) rfl), ?_⟩; refine ⟨_, rfl, ?_⟩)) | (apply Gh.callv; (refine ⟨_, HStep.q rfl (Qs.call (ah rfl) (RTimes_abs (tAt P k).c (tAt P k).m Q N N' (hP.can.2 _ ht) (hP.sz _ ht) (hm.mono (Int.le_refl _) (by omega)) hQ.sz (hQ.ex.mono (Int.le_refl _) (by omega)) (fun t h => (add8_in hm (hQ.ex t h)).mono (Int.le_refl _) hd) (by omega) (by omega)) (by first | ((repeat (first | exact ArgsLe.nil | refine ArgsLe.cons rfl (D.le.refl _) ?_ | refine ArgsLe.cons rfl D.le_nil ?_)); done) | fail)), ?_⟩; refine ⟨_, rfl, ?_⟩)))
   repeat (first | apply AWp.seq | apply AWp.region | (refine AWs.q rfl rfl ?_; first | (apply Gt.move; refine ⟨_, Qs.move (ao rfl), ?_⟩) | (apply Gt.assign; refine ⟨_, Qs.assign (ao rfl), ?_⟩) | (apply Gt.add; refine ⟨_, Qs.succ (ao rfl) (ao rfl) (by omega), ?_⟩) | (apply Gt.bin; refine ⟨_, Qs.cmpF rfl (ao rfl) (ao rfl) (by first | (simp only [cmpP, List.length_cons, List.length_nil]; omega) | (simp [cmpP]; done) | (simp [cmpP]; omega)), ?_⟩) | (apply Gt.callv; refine ⟨_, Qs.call (ao rfl) (RAdd_pol (mulTo [] (P.take k) Q) (tms (tAt P k).c (tAt P k).m Q) (n * (N + N' + 1)) (N + N') hb.sz ht2.sz (by omega) (by omega)) (by first | ((repeat (first | exact ArgsLe.nil | refine ArgsLe.cons rfl (D.le.refl _) ?_ | refine ArgsLe.cons rfl D.le_nil ?_)); done) | fail), ?_⟩)) | apply OnlyN.mk' | apply AWl.nil | apply AThen.normal | apply AWp.skip | apply ABlock.normal | (apply Gc.cond; refine AWp.condF (ao rfl) ?_))
   refine ALoop.next (P.length - (k + 1)) (by omega) ⟨k + 1, by omega, rfl, rfl⟩ ?_
   exact AS.le_of (by repeat (first | exact FrLe.nil | refine FrLe.cons rfl (AVle.d rfl) ?_ | refine FrLe.cons rfl (AVle.le (D.le_pol (mulTo_take hlt).symm)) ?_)) (by repeat (exact HpLe.nil))
  ·obtain rfl : k = P.length := by omega
   repeat (first | apply AWp.seq | apply AWp.region | (refine AWs.q rfl rfl ?_; first | (apply Gt.move; refine ⟨_, Qs.move (ao rfl), ?_⟩) | (apply Gt.assign; refine ⟨_, Qs.assign (ao rfl), ?_⟩) | (apply Gt.len; refine ⟨_, Qs.lenN rfl (tab_of rfl), ?_⟩) | (apply Gt.bin; refine ⟨_, Qs.cmpF rfl (ao rfl) (ao rfl) (by first | (simp only [cmpP, List.length_cons, List.length_nil]; omega) | (simp [cmpP]; done) | (simp [cmpP]; omega)), ?_⟩)) | apply AWl.nil | apply AThen.normal | apply AWp.exit | apply AWp.ret | apply AThen.exit | apply ABlock.hit | apply ALoop.exit | (apply Gc.cond; refine AWp.condF (ao rfl) ?_))
   exact Fin.ret (Rets.of2 (ResV.tmp rfl rfl) (ResV.tmp rfl rfl) (D.le.tup2 (D.le_pol (by rw [List.take_length]; rfl)) (D.le.refl _)))
theorem RBy_pb {P Q : List Tm} {n N n' N' : Nat} {d d' : Int} (hP : PB P n N d) (hQ : PB Q n' N' d') (h0 : 0 ≤ d) (h0' : 0 ≤ d') (hd : d + d' ≤ 65535) (hn0 : n ≤ 100000) (hn : n * n' + n' ≤ 100000) (hN : n * (N + N' + 1) + N + N' + 1 ≤ 4398046511102) : Abs Tryz.prog 47 [polD P, polD Q] (polD (pmul P Q)) := by
 refine Abs.intro Tryz.func47 rfl (callFunc_run Tryz.func47 (by kernel_rfl) (by kernel_rfl)) rfl fun s0 => ?_
 rw [Tryz.ntmps47]
 repeat (first | apply AWp.seq | apply AWp.region | (refine AWs.q rfl rfl ?_; first | (apply Gt.move; refine ⟨_, Qs.move (ao rfl), ?_⟩) | (apply Gt.assign; refine ⟨_, Qs.assign (ao rfl), ?_⟩) | (apply Gt.ext; refine ⟨_, Qs.ext (ao rfl) rfl, ?_⟩) | (apply Gt.callv; refine ⟨_, Qs.call (ao rfl) (RPMul_pb hP hQ h0 h0' hd hn0 hn hN) (by first | ((repeat (first | exact ArgsLe.nil | refine ArgsLe.cons rfl (D.le.refl _) ?_ | refine ArgsLe.cons rfl D.le_nil ?_)); done) | fail), ?_⟩)) | apply AWl.nil | apply AThen.normal | apply AWp.ret)
 exact Fin.ret (Rets.of1 (ResV.tmp rfl rfl) (D.le.refl _))
theorem Abs.le {P : Program} {f : FuncId} {ds : List D} {r r' : D} (h : Abs P f ds r) (hr : D.le r r') : Abs P f ds r' :=
 ⟨h.1, fun s vs h1 h2 h3 => (h.2 s vs h1 h2 h3).mono fun e w' ⟨v, he, s', hw, hl, hv⟩ => ⟨v, he, s', hw, hl, hr _ _ hv⟩⟩
theorem PMul_pb {P Q : List Tm} {n N n' N' : Nat} {d d' : Int} (hP : PB P n N d) (hQ : PB Q n' N' d') (h0 : 0 ≤ d) (h0' : 0 ≤ d') (hd : d + d' ≤ 65535) (hn : n * n' ≤ 100000) (hN : N + N' + 1 ≤ 10000000) : Abs Tryz.prog 18 [polD P, polD Q] (tupD [polD (pmul P Q), ex (.int .i64 0)]) :=
 (PMul_abs P Q N N' hP.sz hQ.sz d d' hP.ex hQ.ex hd h0 h0' (Nat.le_trans (Nat.mul_le_mul hP.len hQ.len) hn) hN).le fun s v hv => by
  obtain ⟨S, ⟨h1, h2, _⟩, h3⟩ := hv
  have h3 : (tupD [polD S, ex (.int .i64 0)]).rel s v := h3
  rwa [polD_sim h1 (hP.mul hQ h0 h0').can (h2.trans (pmul_sim P Q).symm)] at h3
theorem PAdd_pb {P Q : List Tm} {n N n' N' : Nat} {d d' : Int} (hP : PB P n N d) (hQ : PB Q n' N' d') (hn : n + n' ≤ 100000) (hN : N + N' + 1 ≤ 4398046511104) : Abs Tryz.prog 20 [polD P, polD Q] (polD (mrg P Q)) :=
 PAdd_abs P Q N N' hP.sz hQ.sz hN (Nat.le_trans (Nat.add_le_add hP.len hQ.len) hn)
theorem PSub_pb {P Q : List Tm} {n N n' N' : Nat} {d d' : Int} (hP : PB P n N d) (hQ : PB Q n' N' d') (hn : n + n' ≤ 100000) (hN : N + N' + 1 ≤ 4398046511104) : Abs Tryz.prog 21 [polD P, polD Q] (polD (psub P Q)) :=
 PSub_abs P Q N N' hP.sz hQ.sz hN (Nat.le_trans (Nat.add_le_add hP.len hQ.len) hn)
theorem scl_one_neg {Q : List Tm} (hQ : Canon Q) : SameL (sclL (-1 : Int) Q) (neg Q) := by
 rw [sclL, if_neg (by decide)]
 induction Q with
 | nil => trivial
 | cons t Q ih =>
  refine ⟨?_, fun i _ => ?_, ih ⟨(List.pairwise_cons.1 hQ.1).2, fun u hu => hQ.2 u (by simp [hu])⟩⟩
  ·show ((-1 : Int) : Rat) * t.c = -t.c
   have : ((-1 : Int) : Rat) = -1 := rfl
   rw [this]; grind
  ·show 0 + t.m i = t.m i
   omega
theorem RSub_pb {P Q : List Tm} {n N n' N' : Nat} {d d' : Int} (hP : PB P n N d) (hQ : PB Q n' N' d') (hd : d' ≤ 65535) (hn : n + n' ≤ 100000) (hN : N + N' + 2 ≤ 4398046511103) : Abs Tryz.prog 57 [polD P, polD Q] (polD (psub P Q)) := by
 have hs := scl_one_neg hQ.can
 have hc := (hQ.neg.same hs.symm).can
 exact (RSub_abs P Q N N' hP.sz hQ.sz (hQ.ex.mono (Int.le_refl _) hd) hN (Nat.le_trans (Nat.add_le_add hP.len hQ.len) hn)).le (D.le.of_eq (polD_sim (mrg_canon hP.can hc) (mrg_canon hP.can hQ.neg.can) ((mrg_sim _ _).trans (((Sim.refl P).append hs.sim).trans (mrg_sim _ _).symm))))
theorem RSame_true {P Q : List Tm} (h : SameL P Q) : Abs Tryz.prog 19 [polD P, polD Q] (ex (.bool true)) := by
 have := RSame_abs P Q
 rwa [sameB_true.2 h] at this
theorem RSame_sim {P Q : List Tm} (hP : Canon P) (hQ : Canon Q) (h : Sim P Q) : Abs Tryz.prog 19 [polD P, polD Q] (ex (.bool true)) := RSame_true (canon_unique hP hQ h)
theorem PValid_pb {P : List Tm} {n N : Nat} {d : Int} (h : PB P n N d) (hd : d ≤ 65535) (hN : N ≤ 1000000000) (hn : n ≤ 1000000) : Abs Tryz.prog 14 [polD P] (ex (.bool true)) := PValidP_abs P N h.can (h.ex.mono (Int.le_refl _) hd) h.sz hN (Nat.le_trans h.len hn)
theorem RPValid_pb {P : List Tm} {n N : Nat} {d : Int} (h : PB P n N d) (hd : d ≤ 65535) (hN : N ≤ 1000000000) (hn : n ≤ 1000000) : Abs Tryz.prog 15 [polD P] (ex (.bool true)) := RPValidP_abs P N h.can (h.ex.mono (Int.le_refl _) hd) h.sz hN (Nat.le_trans h.len hn)
end Go.Proofs.YteicdddphdomkaaGreat
namespace Go.Proofs.YteicdddphdomkaaGreat
open Go.RowKit
section
variable {P : Program} {hp : List Ow} {arg : Operand → AV} {dd : Option Tmp} {ty : TypeId} {ps : String} {af : Array Edge} {gd : Option (Nat × Bool)}
theorem Qs.neg {T : TypeId} {x : Operand} {a : Int} (hx : arg x = .d (ex (.int .i64 a))) (h1 : -9223372036854775807 ≤ a) (h2 : a ≤ 9223372036854775807) : Quiet P hp ⟨dd, .unOp .neg T x, ty, ps, af, gd⟩ arg (.d (ex (.int .i64 (-a)))) := by
 refine ⟨fun base s ρ ev hok hbs hhp h => ?_⟩
 have h3 := h x (by simp [Op.operands])
 rw [hx] at h3
 have e1 : ev x = .int .i64 a := h3
 have e2 : IntKind.i64.wrap (-a) = -a := IntWalk.i64_in _ (by omega)
 exact opG_val (v := .int .i64 (-a)) (by simp [execOp, e1, Op.unary, Op.intArith, e2]) ⟨GS.Le.refl s, rfl⟩
theorem Qs.conv64 {S T : TypeId} {x : Operand} {k : IntKind} {a : Int} {d : TypeDesc} {n b n' b' : Nat} {z z' : Value} (hx : arg x = .d (ex (.int k a))) (hS : Tab P S d n b z) (hT : Tab P T (.int .i64) n' b' z') (h1 : -9223372036854775808 ≤ a) (h2 : a ≤ 9223372036854775807) : Quiet P hp ⟨dd, .convert S T x, ty, ps, af, gd⟩ arg (.d (ex (.int .i64 a))) := by
 have := Qs.conv (hp := hp) (dd := dd) (ty := ty) (ps := ps) (af := af) (gd := gd) hx hS hT
 rwa [IntWalk.i64_in _ (by omega)] at this
theorem Qs.succL {T U : TypeId} {x y : Operand} {a : Nat} (hx : arg x = .d (ex (.int .i64 1))) (hy : arg y = .d (ex (.int .i64 (a : Nat)))) (h1 : (a : Int) < 9223372036854775807) : Quiet P hp ⟨dd, .binOp .add T x y U, ty, ps, af, gd⟩ arg (.d (ex (.int .i64 ((a + 1 : Nat) : Int)))) := by
 have := Qs.add (P := P) (hp := hp) (dd := dd) (ty := ty) (ps := ps) (af := af) (gd := gd) (T := T) (U := U) hx hy (by omega) (by omega)
 rwa [show (1 : Int) + a = ((a + 1 : Nat) : Int) by omega] at this
end
section
variable {P : Program} {hp : List Ow} {arg : Operand → AV} {dd : Option Tmp} {ty : TypeId} {ps : String} {af : Array Edge} {gd : Option (Nat × Bool)}
theorem Qs.ixL {x y : Operand} {t : TypeId} {e n b n' b' len T : Nat} {d : TypeDesc} {z z' : Value} {ds r : List D} {κ : IntKind} {i : Int} (hx : arg x = .d (epD T ds)) (hy : arg y = .d (ex (.int κ i))) (ht : Tab P t (.array len e) n b z) (he : Tab P e d n' b' z') (h0 : 0 ≤ i) (hl : i < len) (hr : dropO (i.toNat * n') ds = some r) : Quiet P hp ⟨dd, .indexAddr t x y, ty, ps, af, gd⟩ arg (.d (epD T r)) := by
 rw [(dropO_eq hr).1]
 exact Quiet.indexE (o := ⟨dd, .indexAddr t x y, ty, ps, af, gd⟩) rfl hx hy ht he h0 hl
end
def r5C (r : Nat → Int) : List D := [ex (.int .i8 (r 0)), ex (.int .i8 (r 1)), ex (.int .i8 (r 2)), ex (.int .i8 (r 3)), ex (.int .i8 (r 4))]
theorem r5C_at {r : Nat → Int} {k : Nat} (h : k < 5) : dAt (r5C r) k = ex (.int .i8 (r k)) := by
 match k, h with
 | 0, _ => rfl
 | 1, _ => rfl
 | 2, _ => rfl
 | 3, _ => rfl
 | 4, _ => rfl
theorem CellAt.r5 {r : Nat → Int} {k : Nat} (h : k < 5) : CellAt ((r5C r).drop (k * 1)) 0 (ex (.int .i8 (r k))) := by
 rw [Nat.mul_one]
 refine ⟨by rw [List.length_drop]; show 0 < 5 - k; omega, ?_⟩
 rw [dAt_drop]
 exact r5C_at h
def r5D (T : Nat) (X : List (Nat → Int)) : D := slD T 5 (X.map r5C)
def i5At (X : List (Nat → Int)) (k : Nat) : Nat → Int := X.getD k default
theorem i5At_mem {X : List (Nat → Int)} {k : Nat} (h : k < X.length) : i5At X k ∈ X := by
 unfold i5At
 rw [List.getD_eq_getElem?_getD, List.getElem?_eq_getElem h]
 exact List.getElem_mem h
end Go.Proofs.YteicdddphdomkaaGreat
namespace Go.Proofs.YteicdddphdomkaaGreat
open Go.RowKit
set_option maxRecDepth 100000
theorem Rabs_abs (z : Int) (h0 : -128 ≤ z) (h1 : z ≤ 127) : Abs Tryz.prog 103 [ex (.int .i8 z)] (ex (.int .i64 (z.natAbs : Nat))) := by
 by_cases hz : z < 0
 ·refine Abs.intro Tryz.func103 rfl (callFunc_run Tryz.func103 (by kernel_rfl) (by kernel_rfl)) rfl fun s0 => ?_
  rw [Tryz.ntmps103]
  repeat (first | refine AWs.q rfl rfl ?_; refine ⟨_, Qs.conv64 (ao rfl) (tab_of rfl) (tab_of rfl) (by omega) (by omega), ?_⟩ | refine AWs.q rfl rfl ?_; refine ⟨_, Qs.neg (ao rfl) (by omega) (by omega), ?_⟩ | apply AWp.seq | apply AWp.region | (refine AWs.q rfl rfl ?_; first | (apply Gt.move; refine ⟨_, Qs.move (ao rfl), ?_⟩) | (apply Gt.assign; refine ⟨_, Qs.assign (ao rfl), ?_⟩) | (apply Gt.bin; refine ⟨_, Qs.cmpT rfl (ao rfl) (ao rfl) (by first | (simp only [cmpP, List.length_cons, List.length_nil]; omega) | (simp [cmpP]; done) | (simp [cmpP]; omega)), ?_⟩)) | apply AWl.nil | apply AThen.normal | apply AWp.ret | apply AThen.ret | (apply Gc.cond; refine AWp.condT (ao rfl) ?_))
  exact Fin.ret (Rets.of1 (ResV.tmp rfl rfl) (D.le.of_eq (by congr 2; omega)))
 ·refine Abs.intro Tryz.func103 rfl (callFunc_run Tryz.func103 (by kernel_rfl) (by kernel_rfl)) rfl fun s0 => ?_
  rw [Tryz.ntmps103]
  repeat (first | refine AWs.q rfl rfl ?_; refine ⟨_, Qs.conv64 (ao rfl) (tab_of rfl) (tab_of rfl) (by omega) (by omega), ?_⟩ | apply AWp.seq | apply AWp.region | (refine AWs.q rfl rfl ?_; first | (apply Gt.move; refine ⟨_, Qs.move (ao rfl), ?_⟩) | (apply Gt.assign; refine ⟨_, Qs.assign (ao rfl), ?_⟩) | (apply Gt.bin; refine ⟨_, Qs.cmpF rfl (ao rfl) (ao rfl) (by first | (simp only [cmpP, List.length_cons, List.length_nil]; omega) | (simp [cmpP]; done) | (simp [cmpP]; omega)), ?_⟩)) | apply AWl.nil | apply AThen.normal | apply AWp.skip | apply AWp.ret | (apply Gc.cond; refine AWp.condF (ao rfl) ?_))
  exact Fin.ret (Rets.of1 (ResV.tmp rfl rfl) (D.le.of_eq (by congr 2; omega)))
def lft (deg : Int) (r : Nat → Int) : Nat → Int
 | 0 => deg
 | j + 1 => lft deg r j - ((r (j + 1)).natAbs : Nat) % (lft deg r j + 1)
theorem lft_in {deg : Int} (r : Nat → Int) (h : 0 ≤ deg) : ∀ j, 0 ≤ lft deg r j ∧ lft deg r j ≤ deg
 | 0 => ⟨h, Int.le_refl _⟩
 | j + 1 => by
  have ih := lft_in r h j
  have h1 := Int.emod_nonneg ((r (j + 1)).natAbs : Int) (show lft deg r j + 1 ≠ 0 by omega)
  have h2 := Int.emod_lt_of_pos ((r (j + 1)).natAbs : Int) (show 0 < lft deg r j + 1 by omega)
  simp only [lft]
  omega
def expE (deg : Int) (r : Nat → Int) (n : Nat) : Nat → Int := fun j => if j < n then ((r (j + 1)).natAbs : Nat) % (lft deg r j + 1) else 0
theorem expE_in {deg : Int} (r : Nat → Int) (h : 0 ≤ deg) (n : Nat) : In8 (expE deg r n) 0 deg := fun j _ => by
 unfold expE
 have ih := lft_in r h j
 split
 ·have h1 := Int.emod_nonneg ((r (j + 1)).natAbs : Int) (show lft deg r j + 1 ≠ 0 by omega)
  have h2 := Int.emod_lt_of_pos ((r (j + 1)).natAbs : Int) (show 0 < lft deg r j + 1 by omega)
  omega
 ·omega
theorem expE_set (deg : Int) (r : Nat → Int) (k : Nat) : setM (expE deg r k) k (((r (k + 1)).natAbs : Nat) % (lft deg r k + 1)) = expE deg r (k + 1) := by
 funext j
 simp only [setM, expE]
 rcases Nat.lt_trichotomy j k with h | h | h
 ·rw [if_neg (by omega), if_pos h, if_pos (by omega)]
 ·subst h; simp
 ·rw [if_neg (by omega), if_neg (by omega), if_neg (by omega)]
def rawT (deg : Int) (n : Nat) (r : Nat → Int) : List Tm := sclL ((Int.tmod (r 0) 4 : Int) : Rat) [⟨1, expE deg r n⟩]
def madeTo (deg : Int) (n : Nat) (X : List (Nat → Int)) : List Tm := X.foldl (fun a r => mrg a (rawT deg n r)) []
def madeP (X : List (Nat → Int)) (n : Nat) (deg : Int) (terms : Nat) : List Tm := madeTo deg (min n 4) (X.take (min X.length terms))
theorem tmod4 (z : Int) : -3 ≤ Int.tmod z 4 ∧ Int.tmod z 4 ≤ 3 := by
 rcases Int.le_total 0 z with h | h
 ·rw [Int.tmod_eq_emod_of_nonneg h]; omega
 ·have : Int.tmod z 4 = -((-z) % 4) := by
   rw [← Int.tmod_eq_emod_of_nonneg (by omega), Int.neg_tmod, Int.neg_neg]
  omega
theorem sclL_pb {c : Rat} {P : List Tm} {n N N0 : Nat} {d : Int} (h : PB P n N d) (hs : RSz c N0) : PB (sclL c P) n (N0 + N) d := by
 unfold sclL
 split
 ·exact PB.nil
 ·rename_i hc
  have := tms_pb (t := ⟨c, fun _ => 0⟩) (d0 := 0) h hc hs fun i _ => ⟨Int.le_refl _, Int.le_refl _⟩
  rwa [Int.zero_add] at this
theorem one_pb {m : Nat → Int} {d : Int} (h : In8 m 0 d) : PB [⟨1, m⟩] 1 1 d := PB.single (show (1 : Rat) ≠ 0 by decide) (rsz_one) h
where rsz_one : RSz (1 : Rat) 1 := rsz_sm (x := 1) (by omega) (by omega)
theorem tmod_sz (z : Int) : RSz ((Int.tmod z 4 : Int) : Rat) 1 := by
 have := tmod4 z
 exact rsz_sm (by omega) (by omega)
theorem rawT_pb {deg : Int} (n : Nat) (r : Nat → Int) (h : 0 ≤ deg) : PB (rawT deg n r) 1 2 deg := sclL_pb (one_pb (expE_in r h n)) (tmod_sz _)
theorem madeTo_pb {deg : Int} {n : Nat} (h : 0 ≤ deg) : ∀ (X : List (Nat → Int)) (A : List Tm) (k K : Nat), PB A k K deg → PB (X.foldl (fun a r => mrg a (rawT deg n r)) A) (k + X.length) (K + X.length * 3) deg
 | [], A, k, K, h => h
 | r :: X, A, k, K, hA => by
  have h1 := (hA.add (rawT_pb n r h)).mono (Nat.le_refl _) (Nat.le_refl _) (Int.max_le.2 ⟨Int.le_refl _, Int.le_refl _⟩)
  have := madeTo_pb (n := n) h X _ _ _ h1
  exact this.mono (by simp; omega) (by simp; omega) (Int.le_refl _)
theorem madeP_pb (X : List (Nat → Int)) (n : Nat) {deg : Int} (terms : Nat) (h : 0 ≤ deg) : PB (madeP X n deg terms) terms (terms * 3) deg := by
 have := madeTo_pb (n := min n 4) h (X.take (min X.length terms)) [] 0 0 PB.nil
 have hl : (X.take (min X.length terms)).length ≤ terms := by rw [List.length_take]; omega
 exact this.mono (by omega) (by omega) (Int.le_refl _)
theorem madeTo_take_pb (X : List (Nat → Int)) (n : Nat) {deg : Int} {terms k : Nat} (h : 0 ≤ deg) (hk : k ≤ terms) : PB (madeTo deg n (X.take k)) terms (terms * 3) deg := by
 have := madeTo_pb (n := n) h (X.take k) [] 0 0 PB.nil
 have hl : (X.take k).length ≤ terms := by rw [List.length_take]; omega
 exact this.mono (by omega) (by omega) (Int.le_refl _)
theorem foldl_i5 {α : Type} (f : α → (Nat → Int) → α) (b : α) {X : List (Nat → Int)} {k : Nat} (h : k < X.length) : (X.take (k + 1)).foldl f b = f ((X.take k).foldl f b) (i5At X k) := by
 have e : X.take (k + 1) = X.take k ++ [i5At X k] := by
  rw [List.take_add_one, List.getElem?_eq_getElem h, i5At, List.getD_eq_getElem?_getD, List.getElem?_eq_getElem h]
  rfl
 rw [e, List.foldl_append]
 rfl
def Raw8 (X : List (Nat → Int)) : Prop := ∀ r ∈ X, ∀ j, j < 5 → -128 ≤ r j ∧ r j ≤ 127
theorem RMade_abs (T : Nat) (X : List (Nat → Int)) (n terms : Nat) (deg : Int) (hX : Raw8 X) (hn : n ≤ 8) (ht : terms ≤ 1000) (h0 : 0 ≤ deg) (hd : deg ≤ 1000) : Abs Tryz.prog 41 [agD [r5D T X], ex (.int .i64 (n : Nat)), ex (.int .i64 deg), ex (.int .i64 (terms : Nat))] (polD (madeP X n deg terms)) := by
 refine Abs.intro Tryz.func41 rfl (callFunc_run Tryz.func41 (by kernel_rfl) (by kernel_rfl)) rfl fun s0 => ?_
 rw [Tryz.ntmps41]
 repeat (first | apply AWp.seq | apply AWp.region | (apply Ga.box; refine AWs.bx (ao rfl) rfl rfl rfl rfl ?_) | (apply Ga.b0; refine AWs.b0 (tab_of rfl) (tab_of rfl) rfl rfl rfl rfl rfl ?_) | (refine AWs.q rfl rfl ?_; (apply Gt.assign; refine ⟨_, Qs.assign (ao rfl), ?_⟩)) | apply AWl.nil | apply AThen.normal | apply AWp.block)
 refine AWp.loop (fun mz σ => ∃ k, k ≤ min X.length terms ∧ mz = min X.length terms - k ∧ σ = ⟨[(1, .d (ex (.int .i64 (n : Nat)))), (2, .d (ex (.int .i64 deg))), (3, .d (ex (.int .i64 (terms : Nat)))), (4, .ptr 0 0), (9, .d (polD (madeTo deg (min n 4) (X.take k)))), (10, .d (ex (.int .i64 (k : Nat))))], [.var 37 ([r5D T X].map .d)]⟩) ?le ⟨0, by omega, rfl, rfl⟩ ?round
 case le => exact AS.le_of (by repeat (first | exact FrLe.nil | refine FrLe.cons rfl (AVle.d rfl) ?_ | refine FrLe.cons rfl (AVle.ptr rfl) ?_ | refine FrLe.cons rfl (AVle.ownD rfl (D.le.refl _)) ?_)) (by repeat (first | exact HpLe.nil | refine HpLe.cons (OwLe.varD rfl) ?_))
 case round =>
  rintro mz _ ⟨k, hk, rfl, rfl⟩
  by_cases hlt : k < min X.length terms
  ·have hkX : k < X.length := by omega
   have hkt : k < terms := by omega
   repeat (first | apply AWp.seq | apply AWp.region | (apply Ga.alloc; refine AWs.al (tab_of rfl) rfl rfl rfl rfl rfl rfl ?_) | (apply Ga.store; refine AWs.stF (ao rfl) (ao rfl) rfl (tab_of rfl) rfl rfl rfl ?_) | (refine AWs.q rfl rfl ?_; first | (apply Gt.move; refine ⟨_, Qs.move (ao rfl), ?_⟩) | (apply Gt.assign; refine ⟨_, Qs.assign (ao rfl), ?_⟩) | (apply Gt.load; refine ⟨_, Qs.ldD1 (ao rfl) rfl (tab_of rfl) rfl rfl, ?_⟩) | (apply Gt.fieldAddr; refine ⟨_, Qs.fldP (ao rfl) (tab_of rfl) rfl (tab_of rfl) rfl, ?_⟩) | (apply Gt.len; refine ⟨_, Qs.lenN rfl (tab_of rfl), ?_⟩) | (apply Gt.bin; refine ⟨_, Qs.cmpT rfl (ao rfl) (ao rfl) (by first | (simp only [cmpP, List.length_cons, List.length_nil]; omega) | (simp [cmpP]; done) | (simp [cmpP]; omega)), ?_⟩) | (apply Gt.pick; refine ⟨_, Qs.pickT (ao rfl) (ao rfl), ?_⟩) | (apply Gt.build; (refine Bq.arr (tab_of rfl) (tab_of rfl) rfl rfl ?_; (repeat ((first | refine ⟨_, PartOk.ag (ao rfl), ?_⟩ | refine ⟨_, PartOk.one rfl (by first | exact One.ex_ rfl | exact One.sl | exact One.ep), ?_⟩); refine ⟨_, rfl, ?_⟩)); refine ⟨_, rfl, ?_⟩))) | (refine AWs.qG rfl rfl rfl rfl rfl ?_; first | (apply Gt.move; refine ⟨_, Qs.move (ao rfl), ?_⟩) | (apply Gt.bin; refine ⟨_, Qs.cmpT rfl (ao rfl) (ao rfl) (by first | (simp only [cmpP, List.length_cons, List.length_nil]; omega) | (simp [cmpP]; done) | (simp [cmpP]; omega)), ?_⟩)) | apply AWl.nil | apply AThen.normal | apply AWp.block | apply AWp.skip | (apply Gc.cond; refine AWp.condT (ao rfl) ?_))
   refine AWp.loop (fun mz σ => ∃ i, i ≤ min n 4 ∧ mz = min n 4 - i ∧ σ = ⟨[(1, .d (ex (.int .i64 (n : Nat)))), (2, .d (ex (.int .i64 deg))), (3, .d (ex (.int .i64 (terms : Nat)))), (4, .ptr 0 0), (9, .d (polD (madeTo deg (min n 4) (X.take k)))), (10, .d (ex (.int .i64 (k : Nat)))), (11, .ptr 1 0), (12, .d (ex (.int .i64 (lft deg (i5At X k) i)))), (13, .d (ex (.int .i64 (i : Nat))))], [.var 37 ([r5D T X].map .d), .var 31 ((monC (expE deg (i5At X k) i)).map .d)]⟩) ?lei ⟨0, by omega, rfl, rfl⟩ ?roundi
   case lei => exact AS.le_of (by repeat (first | exact FrLe.nil | refine FrLe.cons rfl (AVle.d rfl) ?_ | refine FrLe.cons rfl (AVle.ptr rfl) ?_)) (by repeat (first | exact HpLe.nil | refine HpLe.cons (OwLe.varD rfl) ?_))
   case roundi =>
    rintro mz _ ⟨i, hi, rfl, rfl⟩
    by_cases hlti : i < min n 4
    ·have hl := lft_in (i5At X k) h0 i
     have hr := hX _ (i5At_mem hkX) (i + 1) (by omega)
     have hs : setM (expE deg (i5At X k) i) i (((i5At X k (i + 1)).natAbs : Nat) % (lft deg (i5At X k) i + 1)) i = ((i5At X k (i + 1)).natAbs : Nat) % (lft deg (i5At X k) i + 1) := if_pos rfl
     have he1 := Int.emod_nonneg ((i5At X k (i + 1)).natAbs : Int) (show lft deg (i5At X k) i + 1 ≠ 0 by omega)
     have he2 := Int.emod_lt_of_pos ((i5At X k (i + 1)).natAbs : Int) (show 0 < lft deg (i5At X k) i + 1 by omega)
     repeat (first | refine AWs.q rfl rfl ?_; refine ⟨_, Qs.succL (ao rfl) (ao rfl) (by omega), ?_⟩ | refine AWs.q rfl rfl ?_; refine ⟨_, Qs.ldEX1 (ao rfl) (tab_of rfl) rfl (CellAt.r5 (show i + 1 < 5 by omega)), ?_⟩ | apply AWp.seq | apply AWp.region | (apply Ga.store; refine AWs.stX1 (ao rfl) (ao rfl) rfl (tab_of rfl) (by first | exact One.ex_ rfl | exact One.sl | exact One.ep) (SetAt.mon (by first | omega | (simp; omega))) rfl ?_) | (refine AWs.q rfl rfl ?_; first | (apply Gt.move; refine ⟨_, Qs.move (ao rfl), ?_⟩) | (apply Gt.assign; refine ⟨_, Qs.assign (ao rfl), ?_⟩) | (apply Gt.load; first | refine ⟨_, Qs.ldD1 (ao rfl) rfl (tab_of rfl) rfl rfl, ?_⟩ | refine ⟨_, Qs.ldX1 (ao rfl) rfl (tab_of rfl) rfl (CellAt.mon0 (by first | omega | (simp; omega))), ?_⟩) | (apply Gt.fieldAddr; refine ⟨_, Qs.fldP (ao rfl) (tab_of rfl) rfl (tab_of rfl) rfl, ?_⟩) | (apply Gt.indexAddr; first | refine ⟨_, Qs.indexN rfl (ao rfl) (tab_of rfl) (tab_of rfl) rfl (by first | omega | (simp; omega)), ?_⟩ | refine ⟨_, Qs.ixP (ao rfl) (ao rfl) (tab_of rfl) (tab_of rfl) (by first | omega | (simp; omega)), ?_⟩ | refine ⟨_, Qs.ixE (ao rfl) (ao rfl) (tab_of rfl) (tab_of rfl) (by first | omega | (simp; omega)), ?_⟩) | (apply Gt.add; first | refine ⟨_, Qs.succ (ao rfl) (ao rfl) (by omega), ?_⟩ | refine ⟨_, Qs.add (ao rfl) (ao rfl) (by omega) (by omega), ?_⟩) | (apply Gt.sub; refine ⟨_, Qs.sub (ao rfl) (ao rfl) (by omega) (by omega), ?_⟩) | (apply Gt.rem; refine ⟨_, Qs.rem (ao rfl) (ao rfl) (by omega) (by omega), ?_⟩) | (apply Gt.bin; refine ⟨_, Qs.cmpT rfl (ao rfl) (ao rfl) (by first | (simp only [cmpP, List.length_cons, List.length_nil]; omega) | (simp [cmpP]; done) | (simp [cmpP]; omega)), ?_⟩) | (apply Gt.pick; refine ⟨_, Qs.pickT (ao rfl) (ao rfl), ?_⟩) | (apply Gt.callv; refine ⟨_, Qs.call (ao rfl) (Rabs_abs (i5At X k (i + 1)) hr.1 hr.2) (by first | ((repeat (first | exact ArgsLe.nil | refine ArgsLe.cons rfl (D.le.refl _) ?_ | refine ArgsLe.cons rfl D.le_nil ?_)); done) | fail), ?_⟩)) | (refine AWs.qG rfl rfl rfl rfl rfl ?_; first | (apply Gt.move; refine ⟨_, Qs.move (ao rfl), ?_⟩) | (apply Gt.bin; refine ⟨_, Qs.cmpT rfl (ao rfl) (ao rfl) (by first | (simp only [cmpP, List.length_cons, List.length_nil]; omega) | (simp [cmpP]; done) | (simp [cmpP]; omega)), ?_⟩)) | apply AWl.nil | apply AThen.normal | apply AWp.block | apply AWp.skip | apply ABlock.normal | (apply Gc.cond; refine AWp.condT (ao rfl) ?_))
     refine ALoop.next (min n 4 - (i + 1)) (by omega) ⟨i + 1, by omega, rfl, rfl⟩ ?_
     exact AS.le_of (by repeat (first | exact FrLe.nil | refine FrLe.cons rfl (AVle.d rfl) ?_ | refine FrLe.cons rfl (AVle.ptr rfl) ?_ | refine FrLe.cons rfl (AVle.int (by rw [hs]; rfl)) ?_)) (by repeat (first | exact HpLe.nil | refine HpLe.cons (OwLe.varD (by rw [expE_set])) ?_ | refine HpLe.cons (OwLe.varD rfl) ?_))
    ·obtain rfl : i = min n 4 := by omega
     have hrm := i5At_mem hkX
     have hr0 := hX _ hrm 0 (by omega)
     have h4 := tmod4 (i5At X k 0)
     have h4' : -3 ≤ Int.tmod (X.getD k default 0) 4 ∧ Int.tmod (X.getD k default 0) 4 ≤ 3 := h4
     have hb := madeTo_take_pb X (min n 4) (terms := terms) h0 (Nat.le_of_lt hkt)
     have hbl := hb.len
     have ht := rawT_pb (min n 4) (i5At X k) h0
     have htl := ht.len
     have h1 := one_pb (expE_in (i5At X k) h0 (min n 4))
     have hz : (i5At X k 0).tmod 4 = IntKind.i64.wrap ((i5At X k 0).tmod 4) := (IntWalk.i64_in _ (by omega)).symm
     have hst : madeTo deg (min n 4) (X.take (k + 1)) = mrg (madeTo deg (min n 4) (X.take k)) (rawT deg (min n 4) (i5At X k)) := foldl_i5 (fun a r => mrg a (rawT deg (min n 4) r)) [] hkX
     rcases (show n ≤ 4 ∨ 4 < n by omega) with hn4 | hn4
     all_goals
      repeat (first | apply AWp.seq | apply AWp.region | (refine AWs.q rfl rfl ?_; first | (apply Gt.move; refine ⟨_, Qs.move (ao rfl), ?_⟩) | (apply Gt.bin; first | refine ⟨_, Qs.cmpT rfl (ao rfl) (ao rfl) (by first | (simp only [cmpP, List.length_cons, List.length_nil]; omega) | (simp [cmpP]; done) | (simp [cmpP]; omega)), ?_⟩ | refine ⟨_, Qs.cmpF rfl (ao rfl) (ao rfl) (by first | (simp only [cmpP, List.length_cons, List.length_nil]; omega) | (simp [cmpP]; done) | (simp [cmpP]; omega)), ?_⟩) | (apply Gt.pick; first | refine ⟨_, Qs.pickT (ao rfl) (ao rfl), ?_⟩ | refine ⟨_, Qs.pickF (ao rfl) (ao rfl), ?_⟩)) | refine AWs.sG rfl rfl rfl rfl rfl ?_ | (refine AWs.qG rfl rfl rfl rfl rfl ?_; first | (apply Gt.move; refine ⟨_, Qs.move (ao rfl), ?_⟩) | (apply Gt.bin; refine ⟨_, Qs.cmpF rfl (ao rfl) (ao rfl) (by first | (simp only [cmpP, List.length_cons, List.length_nil]; omega) | (simp [cmpP]; done) | (simp [cmpP]; omega)), ?_⟩)) | apply AWl.nil | apply AThen.normal | apply AWp.exit | apply AThen.exit | apply ABlock.hit | apply ALoop.exit | (apply Gc.cond; refine AWp.condF (ao rfl) ?_))
      refine AWp.dr' (DrawOk.self (by kernel_rfl)) [[], [], [(58, 1)], [], [(59, 2), (60, 3)], [(61, 4)], [(62, 5)], [(63, 6)], [(64, 7)], [(65, 8)], [], [], [(67, 10), (68, 11)], [(69, 12)], [(66, 9), (70, 13)], [(57, 0), (71, 14)]] [[], [], [1], [], [1, 2, 3], [1, 2, 3, 4], [1, 2, 3, 4, 5], [1, 2, 3, 4, 5, 6], [1, 2, 3, 4, 5, 6, 7], [1, 2, 3, 4, 5, 6, 7, 8], [1, 2, 3, 4, 5, 6, 7, 8, 9], [], [1, 2, 3, 4, 5, 6, 7, 8, 9, 10, 11], [1, 2, 3, 4, 5, 6, 7, 8, 9, 10, 11, 12], [1, 2, 3, 4, 5, 6, 7, 8, 9, 10, 11, 12, 13], [0, 1, 2, 3, 4, 5, 6, 7, 8, 9, 10, 11, 12, 13, 14]] rfl (by kernel_rfl) (by kernel_rfl) (by kernel_rfl) ?_
      repeat (first | refine ⟨_, rfl, ?_⟩ | (apply Gh.move; (refine ⟨_, HStep.q rfl (Qs.move (ah rfl)), ?_⟩; refine ⟨_, rfl, ?_⟩)) | (apply Gh.load; first | (refine ⟨_, HStep.q rfl (Qs.ldD (ah rfl) rfl (tab_of rfl) rfl rfl), ?_⟩; refine ⟨_, rfl, ?_⟩) | (refine ⟨_, HStep.q rfl (Qs.ldD1 (ah rfl) rfl (tab_of rfl) rfl rfl), ?_⟩; refine ⟨_, rfl, ?_⟩) | (refine ⟨_, HStep.q rfl (Qs.ldE1 (ah rfl) (tab_of rfl) rfl rfl), ?_⟩; refine ⟨_, rfl, ?_⟩)) | (apply Gh.fieldAddr; (refine ⟨_, HStep.q rfl (Qs.fldP (ah rfl) (tab_of rfl) rfl (tab_of rfl) rfl), ?_⟩; refine ⟨_, rfl, ?_⟩)) | (apply Gh.indexAddr; first | (refine ⟨_, HStep.q rfl (Qs.indexN rfl (ah rfl) (tab_of rfl) (tab_of rfl) rfl (by first | omega | (simp; omega))), ?_⟩; refine ⟨_, rfl, ?_⟩) | (refine ⟨_, HStep.q rfl (Qs.ixL (ah rfl) (ah rfl) (tab_of rfl) (tab_of rfl) (by decide) (by decide) rfl), ?_⟩; refine ⟨_, rfl, ?_⟩)) | (apply Gh.rem; (refine ⟨_, HStep.q rfl (Qs.remT (ah rfl) (ah rfl) (by decide)), ?_⟩; refine ⟨_, rfl, ?_⟩)) | (apply Gh.bslice; (refine ⟨_, HStep.q rfl (Bq.slice1 (ah rfl) (tab_of rfl) (tab_of rfl) rfl rfl rfl rfl rfl), ?_⟩; refine ⟨_, rfl, ?_⟩)) | (apply Gh.conv; (refine ⟨_, HStep.q rfl (Qs.conv64 (ah rfl) (tab_of rfl) (tab_of rfl) (by omega) (by omega)), ?_⟩; refine ⟨_, rfl, ?_⟩)) | (apply Gh.build; (refine Hq rfl ?_; refine Bq.build (tab_of rfl) rfl rfl rfl ?_; (repeat ((first | refine ⟨_, PartOk.ag (ah rfl), ?_⟩ | refine ⟨_, PartOk.one rfl (by first | exact One.ex_ rfl | exact One.sl | exact One.ep), ?_⟩); refine ⟨_, rfl, ?_⟩)); refine ⟨_, rfl, ?_⟩; refine ⟨_, rfl, ?_⟩)) | (apply Gh.callv; first | (refine ⟨_, HStep.q rfl (Qs.call (ah rfl) (RWhole_abs ((i5At X k 0).tmod 4) (by omega) (by omega)) (by first | ((repeat (first | exact ArgsLe.nil | refine ArgsLe.cons rfl (D.le.refl _) ?_ | refine ArgsLe.cons rfl D.le_nil ?_)); done) | fail)), ?_⟩; refine ⟨_, rfl, ?_⟩) | (refine ⟨_, HStep.q rfl (Qs.call (ah rfl) (RWhole_abs 1 (by omega) (by omega)) (by first | ((repeat (first | exact ArgsLe.nil | refine ArgsLe.cons rfl (D.le.refl _) ?_ | refine ArgsLe.cons rfl D.le_nil ?_)); done) | fail)), ?_⟩; refine ⟨_, rfl, ?_⟩) | (refine ⟨_, HStep.q rfl (Qs.call (ah rfl) (RScale_abs ((Int.tmod (i5At X k 0) 4 : Int) : Rat) [⟨1, expE deg (i5At X k) (min n 4)⟩] 1 1 (tmod_sz _) h1.sz (h1.ex.mono (Int.le_refl _) (by omega)) (by simp) (by omega)) (by first | ((repeat (first | exact ArgsLe.nil | refine ArgsLe.cons rfl (D.le.refl _) ?_ | refine ArgsLe.cons rfl D.le_nil ?_)); done) | fail)), ?_⟩; refine ⟨_, rfl, ?_⟩) | (refine ⟨_, HStep.q rfl (Qs.call (ah rfl) (RAdd_pol (madeTo deg (min n 4) (X.take k)) (rawT deg (min n 4) (i5At X k)) (terms * 3) 2 hb.sz ht.sz (by omega) (by omega)) (by first | ((repeat (first | exact ArgsLe.nil | refine ArgsLe.cons rfl (D.le.refl _) ?_ | refine ArgsLe.cons rfl D.le_nil ?_)); done) | fail)), ?_⟩; refine ⟨_, rfl, ?_⟩)))
      repeat (first | apply AWp.region | (refine AWs.q rfl rfl ?_; first | (apply Gt.move; refine ⟨_, Qs.move (ao rfl), ?_⟩) | (apply Gt.assign; refine ⟨_, Qs.assign (ao rfl), ?_⟩) | (apply Gt.add; refine ⟨_, Qs.succ (ao rfl) (ao rfl) (by omega), ?_⟩)) | apply AWl.nil | apply AThen.normal | apply ABlock.normal)
      refine ALoop.next (min X.length terms - (k + 1)) (by omega) ⟨k + 1, by omega, rfl, rfl⟩ ?_
      exact AS.le_of (by repeat (first | exact FrLe.nil | refine FrLe.cons rfl (AVle.d rfl) ?_ | refine FrLe.cons rfl (AVle.ptr rfl) ?_ | refine FrLe.cons rfl (AVle.le (D.le_pol hst.symm)) ?_)) (by repeat (first | exact HpLe.nil | refine HpLe.cons (OwLe.varD rfl) ?_))
  ·obtain rfl : k = min X.length terms := by omega
   rcases (show X.length ≤ terms ∨ terms < X.length by omega) with ht | ht
   all_goals
    repeat (first | apply AWp.seq | apply AWp.region | (refine AWs.q rfl rfl ?_; first | (apply Gt.move; refine ⟨_, Qs.move (ao rfl), ?_⟩) | (apply Gt.assign; refine ⟨_, Qs.assign (ao rfl), ?_⟩) | (apply Gt.load; refine ⟨_, Qs.ldD1 (ao rfl) rfl (tab_of rfl) rfl rfl, ?_⟩) | (apply Gt.fieldAddr; refine ⟨_, Qs.fldP (ao rfl) (tab_of rfl) rfl (tab_of rfl) rfl, ?_⟩) | (apply Gt.len; refine ⟨_, Qs.lenN rfl (tab_of rfl), ?_⟩) | (apply Gt.bin; first | refine ⟨_, Qs.cmpT rfl (ao rfl) (ao rfl) (by first | (simp only [cmpP, List.length_cons, List.length_nil]; omega) | (simp [cmpP]; done) | (simp [cmpP]; omega)), ?_⟩ | refine ⟨_, Qs.cmpF rfl (ao rfl) (ao rfl) (by first | (simp only [cmpP, List.length_cons, List.length_nil]; omega) | (simp [cmpP]; done) | (simp [cmpP]; omega)), ?_⟩) | (apply Gt.pick; first | refine ⟨_, Qs.pickT (ao rfl) (ao rfl), ?_⟩ | refine ⟨_, Qs.pickF (ao rfl) (ao rfl), ?_⟩)) | refine AWs.sG rfl rfl rfl rfl rfl ?_ | (refine AWs.qG rfl rfl rfl rfl rfl ?_; first | (apply Gt.move; refine ⟨_, Qs.move (ao rfl), ?_⟩) | (apply Gt.bin; refine ⟨_, Qs.cmpF rfl (ao rfl) (ao rfl) (by first | (simp only [cmpP, List.length_cons, List.length_nil]; omega) | (simp [cmpP]; done) | (simp [cmpP]; omega)), ?_⟩)) | apply AWl.nil | apply AThen.normal | apply AWp.exit | apply AWp.ret | apply AThen.exit | apply ABlock.hit | apply ALoop.exit | (apply Gc.cond; refine AWp.condF (ao rfl) ?_))
    exact Fin.ret (Rets.of1 (ResV.tmp rfl rfl) (D.le.refl _))
end Go.Proofs.YteicdddphdomkaaGreat
namespace Go.Proofs.YteicdddphdomkaaGreat
open Go.RowKit
section
variable {P : Program} {hp : List Ow} {arg : Operand → AV} {dd : Option Tmp} {ty : TypeId} {ps : String} {af : Array Edge} {gd : Option (Nat × Bool)}
theorem Qz.move {x : Operand} {r : AV} (hx : arg x = r := by first | exact ao rfl | exact ah rfl) : Quiet P hp ⟨dd, .move x, ty, ps, af, gd⟩ arg r := Qs.move hx
theorem Qz.assign {x : Operand} {r : AV} (hx : arg x = r := by first | exact ao rfl | exact ah rfl) : Quiet P hp ⟨dd, .assign x, ty, ps, af, gd⟩ arg r := Qs.assign hx
theorem Qz.ldD {x : Operand} {t : TypeId} {d : TypeDesc} {n b T id off : Nat} {z : Value} {ds r : List D} (hx : arg x = .ptr id off := by first | exact ao rfl | exact ah rfl) (hh : hp[id]? = some (.var T (ds.map .d)) := by exact rfl) (ht : Tab P t d n b z := by exact (tab_of rfl)) (hd : isAg d = true := by exact rfl) (hr : subO off n ds = some r := by exact rfl) : Quiet P hp ⟨dd, .load t x, ty, ps, af, gd⟩ arg (.d (agD r)) := Qs.ldD hx hh ht hd hr
theorem Qz.loadEf {x : Operand} {t : TypeId} {d : TypeDesc} {n b T : Nat} {z : Value} {ds : List D} (hx : arg x = .d (epD T ds) := by first | exact ao rfl | exact ah rfl) (ht : Tab P t d n b z := by exact (tab_of rfl)) (hd : isAg d = true := by exact rfl) (hn : ds.length = n := by exact rfl) : Quiet P hp ⟨dd, .load t x, ty, ps, af, gd⟩ arg (.d (agD ds)) := Qs.loadEf hx ht hd hn
theorem Qz.fldP {x : Operand} {S : TypeId} {fs : Array Field} {f n b n' b' id off : Nat} {fd : Field} {d : TypeDesc} {z z' : Value} (hx : arg x = .ptr id off := by first | exact ao rfl | exact ah rfl) (hS : Tab P S (.struct fs) n b z := by exact (tab_of rfl)) (hf : fs[f]? = some fd := by exact rfl) (he : Tab P fd.type d n' b' z' := by exact (tab_of rfl)) (hn : Nat.beq n' 0 = false := by exact rfl) : Quiet P hp ⟨dd, .fieldAddr S x f, ty, ps, af, gd⟩ arg (.ptr id (off + fd.offset)) := Qs.fldP hx hS hf he hn
theorem Qz.indexN {α : Type} [Inhabited α] {x y : Operand} {t : TypeId} {e n b n' b' T sz k : Nat} {d : TypeDesc} {z z' : Value} {f : α → List D} {l : List α} {κ : IntKind} (hx : asD hp (arg x) = some (slD T sz (l.map f)) := by exact rfl) (hy : arg y = .d (ex (.int κ (k : Nat))) := by first | exact ao rfl | exact ah rfl) (ht : Tab P t (.slice e) n b z := by exact (tab_of rfl)) (he : Tab P e d n' b' z' := by exact (tab_of rfl)) (hsz : n' = sz := by exact rfl) (hk : k < l.length := by first | omega | (simp; omega)) : Quiet P hp ⟨dd, .indexAddr t x y, ty, ps, af, gd⟩ arg (.d (epD T (f (l.getD k default)))) := Qs.indexN hx hy ht he hsz hk
theorem Qz.lenN {α : Type} {x : Operand} {t : TypeId} {e n b T sz : Nat} {z : Value} {f : α → List D} {l : List α} (hx : asD hp (arg x) = some (slD T sz (l.map f)) := by exact rfl) (ht : Tab P t (.slice e) n b z := by exact (tab_of rfl)) : Quiet P hp ⟨dd, .call { callee := .builtin .len, args := #[x], argTypes := #[t] }, ty, ps, af, gd⟩ arg (.d (ex (.int .i64 (l.length : Nat)))) := Qs.lenN hx ht
theorem Qz.succ {T U : TypeId} {x y : Operand} {a : Nat} (hx : arg x = .d (ex (.int .i64 (a : Nat))) := by first | exact ao rfl | exact ah rfl) (hy : arg y = .d (ex (.int .i64 1)) := by first | exact ao rfl | exact ah rfl) (h1 : (a : Int) < 9223372036854775807 := by omega) : Quiet P hp ⟨dd, .binOp .add T x y U, ty, ps, af, gd⟩ arg (.d (ex (.int .i64 ((a + 1 : Nat) : Int)))) := Qs.succ hx hy h1
theorem Qz.cmpT {op : BinOp} {T U : TypeId} {x y : Operand} {k : IntKind} {a b : Int} (hb : isCmp op = true := by exact rfl) (hx : arg x = .d (ex (.int k a)) := by first | exact ao rfl | exact ah rfl) (hy : arg y = .d (ex (.int k b)) := by first | exact ao rfl | exact ah rfl) (hc : cmpP op a b := by first | (simp only [cmpP, List.length_cons, List.length_nil]; omega) | (simp [cmpP]; done) | (simp [cmpP]; omega)) : Quiet P hp ⟨dd, .binOp op T x y U, ty, ps, af, gd⟩ arg (.d (ex (.bool true))) := Qs.cmpT hb hx hy hc
theorem Qz.cmpF {op : BinOp} {T U : TypeId} {x y : Operand} {k : IntKind} {a b : Int} (hb : isCmp op = true := by exact rfl) (hx : arg x = .d (ex (.int k a)) := by first | exact ao rfl | exact ah rfl) (hy : arg y = .d (ex (.int k b)) := by first | exact ao rfl | exact ah rfl) (hc : ¬ cmpP op a b := by first | (simp only [cmpP, List.length_cons, List.length_nil]; omega) | (simp [cmpP]; done) | (simp [cmpP]; omega)) : Quiet P hp ⟨dd, .binOp op T x y U, ty, ps, af, gd⟩ arg (.d (ex (.bool false))) := Qs.cmpF hb hx hy hc
theorem Qz.max {x y : Operand} {tys : Array TypeId} {k : IntKind} {a b : Int} (hx : arg x = .d (ex (.int k a)) := by first | exact ao rfl | exact ah rfl) (hy : arg y = .d (ex (.int k b)) := by first | exact ao rfl | exact ah rfl) : Quiet P hp ⟨dd, .call { callee := .builtin .max, args := #[x, y], argTypes := tys }, ty, ps, af, gd⟩ arg (.d (ex (.int k (Max.max a b)))) := Qs.max hx hy
theorem Qz.call {f : Operand} {args : List Operand} {tys : Array TypeId} {fid : FuncId} {ds : List D} {r : D} (hc : Abs P fid ds r) (hf : arg f = .d (ex (.func (.func fid) #[] #[])) := by first | exact ao rfl | exact ah rfl) (ha : ArgsLe hp arg args ds := by repeat (first | exact ArgsLe.nil | refine ArgsLe.cons rfl (D.le.refl _) ?_ | refine ArgsLe.cons rfl D.le_nil ?_)) : Quiet P hp ⟨dd, .call { callee := .value f, args := args.toArray, argTypes := tys }, ty, ps, af, gd⟩ arg (.d r) := Qs.call hf hc ha
end
section
variable {P : Program} {s0 : GS} {n : Nat} {ops : Array Oper} {Q : Exit → AS → Prop} {rest : List Oper} {fr : List (Nat × AV)} {hp : List Ow} {ty : TypeId} {ps : String} {af : Array Edge} {d : Nat} {op : Op} {r : AV}
theorem Wq (hq : Quiet P hp ⟨some d, op, ty, ps, af, none⟩ (AS.arg ⟨fr, hp⟩) r) (h : AWl P s0 n ops Q rest ⟨(d, r) :: fr, hp⟩) (hs : notSelect op = true := by exact rfl) (hd : Nat.blt d n = true := by exact rfl) : AWl P s0 n ops Q (⟨some d, op, ty, ps, af, none⟩ :: rest) ⟨fr, hp⟩ := AWs.q hs hd ⟨r, hq, h⟩
end
section
variable {P : Program} {σ : AS} {K : List HR → Prop} {acc acc' : List HR} {o : Oper} {L : List Oper} {e : List (Nat × Nat)} {es : List (List (Nat × Nat))} {r : AV}
end
end Go.Proofs.YteicdddphdomkaaGreat
namespace Go.Proofs.YteicdddphdomkaaGreat
open Go.RowKit
set_option maxRecDepth 100000
def degL (P : List Tm) : Int := P.foldl (fun d t => max d (sumTo t.m 8)) (-1)
theorem degL_take {P : List Tm} {k : Nat} (h : k < P.length) : degL (P.take (k + 1)) = max (degL (P.take k)) (sumTo (tAt P k).m 8) := foldl_tAt (fun d t => max d (sumTo t.m 8)) (-1) h
theorem PDeg_abs (P : List Tm) (hP : PIn P 0 65535) (hn : P.length ≤ 1000000) : Abs Tryz.prog 37 [polD P] (ex (.int .i64 (degL P))) := by
 refine Abs.intro Tryz.func37 rfl (callFunc_run Tryz.func37 (by kernel_rfl) (by kernel_rfl)) rfl fun s0 => ?_
 rw [Tryz.ntmps37]
 apply AWp.seq; apply AWp.region; refine Wq Qz.assign ?_; apply AWl.nil; apply AThen.normal; apply AWp.seq; apply AWp.region; refine Wq Qz.assign ?_; apply AWl.nil; apply AThen.normal; apply AWp.seq; apply AWp.seq; apply AWp.region; refine Wq Qz.move ?_; refine Wq Qz.lenN ?_; refine Wq Qz.move ?_; apply AWl.nil; apply AThen.normal; apply AWp.block
 refine AWp.loop (fun mz σ => ∃ k, k ≤ P.length ∧ mz = P.length - k ∧ σ = ⟨[(3, .d (ex (.int .i64 (degL (P.take k))))), (6, .d (polD P)), (7, .d (ex (.int .i64 (P.length : Nat)))), (8, .d (ex (.int .i64 (k : Nat))))], []⟩) ?le ⟨0, by omega, rfl, rfl⟩ ?round
 case le => exact AS.le_of (by refine FrLe.cons rfl (AVle.d rfl) ?_; refine FrLe.cons rfl (AVle.d rfl) ?_; refine FrLe.cons rfl (AVle.d rfl) ?_; refine FrLe.cons rfl (AVle.d rfl) ?_; exact FrLe.nil) (by exact HpLe.nil)
 case round =>
  rintro mz _ ⟨k, hk, rfl, rfl⟩
  by_cases hlt : k < P.length
  ·have hin := hP _ (tAt_mem hlt)
   have hst := degL_take hlt
   apply AWp.seq; apply AWp.region; refine Wq Qz.cmpT ?_; apply AWl.nil; apply AThen.normal; apply AWp.seq; refine AWp.condT (ao rfl) ?_; apply AWp.skip; apply AThen.normal; apply AWp.seq; apply AWp.block; apply AWp.seq; apply AWp.region; refine Wq Qz.indexN ?_; refine Wq Qz.loadEf ?_; refine AWs.al (tab_of rfl) rfl rfl rfl rfl rfl rfl ?_; refine AWs.stF (ao rfl) (ao rfl) rfl (tab_of rfl) rfl rfl rfl ?_; apply AWl.nil; apply AThen.normal; apply AWp.region; refine Wq Qz.move ?_; refine Wq Qz.fldP ?_; refine Wq Qz.ldD ?_; refine Wq (Qz.call (mDegree_abs (tAt P k).m (hin.mono (by omega) (by omega)))) ?_; refine Wq Qz.max ?_; refine Wq Qz.assign ?_; apply AWl.nil; apply ABlock.normal; apply AThen.normal; apply AWp.region; refine Wq Qz.succ ?_; refine Wq Qz.move ?_; apply AWl.nil
   refine ALoop.next (P.length - (k + 1)) (by omega) ⟨k + 1, by omega, rfl, rfl⟩ ?_
   exact AS.le_of (by refine FrLe.cons rfl (AVle.int hst.symm) ?_; refine FrLe.cons rfl (AVle.d rfl) ?_; refine FrLe.cons rfl (AVle.d rfl) ?_; refine FrLe.cons rfl (AVle.d rfl) ?_; exact FrLe.nil) (by exact HpLe.nil)
  ·obtain rfl : k = P.length := by omega
   apply AWp.seq; apply AWp.region; refine Wq Qz.cmpF ?_; apply AWl.nil; apply AThen.normal; apply AWp.seq; refine AWp.condF (ao rfl) ?_; apply AWp.exit; apply AThen.exit; apply ALoop.exit; apply ABlock.hit; apply AThen.normal; apply AWp.seq; apply AWp.region; refine Wq Qz.move ?_; refine Wq Qz.assign ?_; apply AWl.nil; apply AThen.normal; apply AWp.ret
   exact Fin.ret (Rets.of1 (ResV.tmp rfl rfl) (D.le.of_eq (by rw [List.take_length])))
end Go.Proofs.YteicdddphdomkaaGreat
namespace Go.Proofs.YteicdddphdomkaaGreat
open Go.RowKit
def Top (R : List (Nat → Int)) (P : List Tm) (s : Tm) : Prop := ∃ A B, P = A ++ s :: B ∧ ∀ u ∈ A ++ B, 0 < oCmp R s.m u.m
theorem dot_mid (f : (Nat → Int) → Rat) (A B : List Tm) (s : Tm) : dot f (A ++ s :: B) = s.c * f s.m + dot f (A ++ B) := by
 rw [dot_append, dot_append]
 simp only [dot]
 grind
theorem oCmp_ne {R : List (Nat → Int)} {a b : Nat → Int} (h : 0 < oCmp R a b) : ¬ Eqv a b := fun e => by rw [oCmp_zero.2 e] at h; omega
theorem oCmp_addL (R : List (Nat → Int)) (a b c : Nat → Int) : oCmp R (add8 c a) (add8 c b) = oCmp R a b := by rw [add8_comm c a, add8_comm c b, oCmp_add]
theorem dot_zero_of {f : (Nat → Int) → Rat} {P : List Tm} (h : ∀ t ∈ P, f t.m = 0) : dot f P = 0 := (dot_congr h).trans (dot_zero P)
theorem dot_top {R : List (Nat → Int)} {P Q : List Tm} {s t : Tm} (hP : Top R P s) (hQ : Top R Q t) : dot (del (add8 s.m t.m)) (mulL P Q) = s.c * t.c := by
 obtain ⟨A, B, rfl, hA⟩ := hP
 obtain ⟨A', B', rfl, hA'⟩ := hQ
 rw [dot_mulL, dot_mid]
 have h1 : dot (fun b => del (add8 s.m t.m) (add8 s.m b)) (A' ++ t :: B') = t.c := by
  have h0 : dot (fun b => del (add8 s.m t.m) (add8 s.m b)) (A' ++ B') = 0 := dot_zero_of fun u hu => del_ne (oCmp_ne (R := R) (by rw [oCmp_addL]; exact hA' u hu))
  rw [dot_mid, h0, del_eq (Eqv.refl _)]
  grind
 have h2 : dot (fun a => dot (fun b => del (add8 s.m t.m) (add8 a b)) (A' ++ t :: B')) (A ++ B) = 0 := by
  refine dot_zero_of fun u hu => dot_zero_of fun v hv => del_ne (oCmp_ne (R := R) ?_)
  have h3 : 0 < oCmp R (add8 s.m t.m) (add8 u.m t.m) := by rw [oCmp_add]; exact hA u hu
  have h4 : 0 ≤ oCmp R (add8 u.m t.m) (add8 u.m v.m) := by
   rw [oCmp_addL]
   rcases List.mem_append.1 hv with hv | hv
   ·exact Int.le_of_lt (hA' v (by simp [hv]))
   ·rcases List.mem_cons.1 hv with rfl | hv
    ·rw [oCmp_zero.2 (Eqv.refl _)]; omega
    ·exact Int.le_of_lt (hA' v (by simp [hv]))
  exact (oCmp_trans (Int.le_of_lt h3) h4).2 (.inl h3)
 rw [h1, h2]
 grind
theorem top_cons {s : Tm} {P : List Tm} (h : Dec (s :: P)) : Top [] (s :: P) s := ⟨[], P, rfl, fun u hu => (List.pairwise_cons.1 h).1 u (by simpa using hu)⟩
theorem sim_nil {P : List Tm} (h : Canon P) (hs : Sim P []) : P = [] := by
 have := (canon_unique h Canon.nil hs).length
 exact List.eq_nil_of_length_eq_zero this
theorem mulL_nil_right (P : List Tm) : mulL P [] = [] := by simp [mulL]
theorem pmul_nil_right {P : List Tm} (hc : Canon (pmul P [])) : pmul P [] = [] := sim_nil hc ((pmul_sim P []).trans (by rw [mulL_nil_right]; exact Sim.refl _))
theorem pmul_ne {P Q : List Tm} (hP : Canon P) (hQ : Canon Q) (h : P ≠ []) (h' : Q ≠ []) : pmul P Q ≠ [] := fun e => by
 cases P with
 | nil => exact h rfl
 | cons s P => cases Q with
  | nil => exact h' rfl
  | cons t Q =>
   have h1 := dot_top (top_cons hP.1) (top_cons hQ.1)
   rw [← pmul_sim _ _ _ (del_resp _), e] at h1
   exact rat_mul_ne (hP.2 s (by simp)) (hQ.2 t (by simp)) h1.symm
theorem sub_sim {P Q P' Q' : List Tm} (h : Sim P P') (k : Sim Q Q') : Sim (psub P Q) (P' ++ neg Q') := (mrg_sim _ _).trans (h.append (neg_sim k))
theorem add_sim {P Q P' Q' : List Tm} (h : Sim P P') (k : Sim Q Q') : Sim (mrg P Q) (P' ++ Q') := (mrg_sim _ _).trans (h.append k)
theorem mul_sim {P Q P' Q' : List Tm} (h : Sim P P') (k : Sim Q Q') : Sim (pmul P Q) (mulL P' Q') := (pmul_sim _ _).trans (h.mul k)
theorem constL_one : constL (1 : Int) = [⟨1, fun _ => 0⟩] := by
 rw [constL, if_neg (by decide)]
 rfl
theorem pmul_comm (P Q : List Tm) : Sim (pmul P Q) (pmul Q P) := (pmul_sim _ _).trans ((mulL_comm P Q).trans (pmul_sim _ _).symm)
theorem padd_comm (P Q : List Tm) : Sim (mrg P Q) (mrg Q P) := (mrg_sim _ _).trans ((append_comm P Q).trans (mrg_sim _ _).symm)
theorem pmul_add (P Q R : List Tm) : Sim (pmul P (mrg Q R)) (mrg (pmul P Q) (pmul P R)) := (mul_sim (Sim.refl _) (mrg_sim _ _)).trans ((mulL_add P Q R).trans (add_sim (pmul_sim _ _) (pmul_sim _ _)).symm)
theorem pmul_assoc (P Q R : List Tm) : Sim (pmul (pmul P Q) R) (pmul P (pmul Q R)) := (mul_sim (pmul_sim _ _) (Sim.refl _)).trans ((mulL_assoc P Q R).trans (mul_sim (Sim.refl _) (pmul_sim _ _)).symm)
theorem pmul_one (P : List Tm) : Sim (pmul P (constL (1 : Int))) P := (mul_sim (Sim.refl _) (Sim.refl _)).trans fun f hf => by
 rw [constL_one, dot_mulL]
 simp only [dot]
 congr 1
 funext a
 rw [add8_zero]
 grind
theorem padd_sub (P Q : List Tm) : Sim (mrg (psub P Q) Q) P := fun f hf => by
 rw [mrg_sim _ _ f hf, dot_append, psub, mrg_sim _ _ f hf, dot_append, neg_dot]
 grind
theorem psub_self {P : List Tm} (h : Canon (psub P P)) : psub P P = [] := sim_nil h fun f hf => by
 rw [psub, mrg_sim _ _ f hf, dot_append, neg_dot]
 show _ = (0 : Rat)
 grind
end Go.Proofs.YteicdddphdomkaaGreat
namespace Go.Proofs.YteicdddphdomkaaGreat
open Go.RowKit
set_option maxRecDepth 100000
theorem got_abs (P : List Tm) : Abs Tryz.prog 17 [polD P, ex (.int .i64 0)] (polD P) := by
 refine Abs.intro Tryz.func17 rfl (callFunc_run Tryz.func17 (by kernel_rfl) (by kernel_rfl)) rfl fun s0 => ?_
 rw [Tryz.ntmps17]
 repeat (first | apply AWp.seq | apply AWp.region | (refine AWs.q rfl rfl ?_; first | (apply Gt.move; refine ⟨_, Qs.move (ao rfl), ?_⟩) | (apply Gt.assign; refine ⟨_, Qs.assign (ao rfl), ?_⟩) | (apply Gt.bin; refine ⟨_, Qs.cmpF rfl (ao rfl) (ao rfl) (by first | (simp only [cmpP, List.length_cons, List.length_nil]; omega) | (simp [cmpP]; done) | (simp [cmpP]; omega)), ?_⟩)) | apply AWl.nil | apply AThen.normal | apply AWp.skip | apply AWp.ret | (apply Gc.cond; refine AWp.condF (ao rfl) ?_))
 exact Fin.ret (Rets.of1 (ResV.tmp rfl rfl) (D.le.refl _))
theorem poly_abs (T : Nat) (X : List (Nat → Int)) (hX : Raw8 X) : Abs Tryz.prog 16 [agD [r5D T X]] (polD (madeP X 4 5 6)) := by
 refine Abs.intro Tryz.func16 rfl (callFunc_run Tryz.func16 (by kernel_rfl) (by kernel_rfl)) rfl fun s0 => ?_
 rw [Tryz.ntmps16]
 repeat (first | apply AWp.seq | apply AWp.region | (apply Ga.box; refine AWs.bx (ao rfl) rfl rfl rfl rfl ?_) | (refine AWs.q rfl rfl ?_; first | (apply Gt.assign; refine ⟨_, Qs.assign (ao rfl), ?_⟩) | (apply Gt.load; refine ⟨_, Qs.ldD (ao rfl) rfl (tab_of rfl) rfl rfl, ?_⟩) | (apply Gt.callv; refine ⟨_, Qs.call (ao rfl) (RMade_abs T X 4 6 5 hX (by omega) (by omega) (by omega) (by omega)) (by first | ((repeat (first | exact ArgsLe.nil | refine ArgsLe.cons rfl (D.le.refl _) ?_ | refine ArgsLe.cons rfl D.le_nil ?_)); done) | fail), ?_⟩)) | apply AWl.nil | apply AThen.normal | apply AWp.ret)
 exact Fin.ret (Rets.of1 (ResV.tmp rfl rfl) (D.le.refl _))
def xT : Tm := ⟨1, unitE 0⟩
def yT : Tm := ⟨1, unitE 1⟩
def yyT : Tm := ⟨1 * 1, add8 (unitE 1) (unitE 1)⟩
theorem var_pb (i : Nat) : PB [⟨1, unitE i⟩] 1 1 1 := one_pb unitE_in
theorem one_pol : PB (constL (1 : Int)) 1 1 1 := constL_pb (rsz_sm (by omega) (by omega)) (by omega)
theorem pmul_yy : pmul [yT] [yT] = [yyT] := by
 show mrg [] [yyT] = [yyT]
 rw [nil_mrg]
theorem sum_xyy : mrg [xT] [yyT] = [xT, yyT] := by
 rw [mrg_gt (show lx xT.m yyT.m = 1 by decide), nil_mrg]
theorem yy_pb : PB [yyT] 1 3 2 := by
 rw [← pmul_yy]
 exact (var_pb 1).mul (var_pb 1) (by omega) (by omega)
theorem ones_in (i : Nat) (hi : i < 8) : -1000 ≤ onesOf 255 i ∧ onesOf 255 i ≤ 1000 := by
 unfold onesOf
 omega
theorem lead_xyy : leadF [onesOf 255] xT [yyT] = yyT := by
 show upT [onesOf 255] xT yyT = yyT
 rw [upT, if_pos (by decide)]
theorem square_sim : Sim (pmul (mrg [xT] (constL (1 : Int))) (psub [xT] (constL (1 : Int)))) (psub (pmul [xT] [xT]) (constL (1 : Int))) := by
 refine (mul_sim (add_sim (Sim.refl _) (Sim.refl _)) (sub_sim (Sim.refl _) (Sim.refl _))).trans (Sim.symm ((sub_sim (pmul_sim _ _) (Sim.refl _)).trans ?_))
 intro f hf
 rw [constL_one]
 simp only [mulL, neg, fT, xT, List.map_cons, List.map_nil, List.flatMap_cons, List.flatMap_nil, List.cons_append, List.nil_append, dot]
 rw [add8_zero, zero_add8, add8_zero]
 grind
set_option maxHeartbeats 2000000 in
theorem sanity_abs : Abs Tryz.prog 13 [] (ex (.bool true)) := by
 have hx := var_pb 0
 have hy := var_pb 1
 have h1 := one_pol
 have ha := hx.add h1
 have hs := hx.sub h1
 have hm := ha.mul hs (by omega) (by omega)
 have hxx := hx.mul hx (by omega) (by omega)
 have hd := hxx.sub h1
 have cyy := PMul_pb hy hy (by omega) (by omega) (by omega) (by omega) (by omega)
 rw [show pmul [⟨1, unitE 1⟩] [⟨1, unitE 1⟩] = [yyT] from pmul_yy] at cyy
 have csum := PAdd_pb hx yy_pb (by omega) (by omega)
 rw [show mrg [⟨1, unitE 0⟩] [yyT] = [xT, yyT] from sum_xyy] at csum
 have clead := PLead_abs xT [yyT] [onesOf 255] (fun r hr => by rw [List.mem_singleton.1 hr]; exact fun i hi => ones_in i hi) ((show PIn [xT, yyT] 0 2 from fun t ht => by
  rcases List.mem_cons.1 ht with rfl | ht
  ·exact (hx.ex _ (by simp [xT])).mono (by omega) (by omega)
  ·exact yy_pb.ex t ht).mono (by omega) (by omega)) (by simp)
 rw [lead_xyy] at clead
 have csq := RSame_sim hm.can hd.can square_sim
 have cval := PValid_pb hm (by omega) (by omega) (by omega)
 refine Abs.intro Tryz.func13 rfl (callFunc_run Tryz.func13 (by kernel_rfl) (by kernel_rfl)) rfl fun s0 => ?_
 rw [Tryz.ntmps13]
 have hyy : eqB yyT.m (fun i => ([0, 2] : List Int).getD i 0) = true := by decide
 repeat (first | refine AWs.qG rfl rfl rfl rfl rfl ?_; refine ⟨_, Qs.eqMonT (a := yyT.m) (b := fun i => ([0, 2] : List Int).getD i 0) (ao rfl) (ao rfl) hyy, ?_⟩ | apply AWp.seq | apply AWp.region | (apply Ga.alloc; refine AWs.al (tab_of rfl) rfl rfl rfl rfl rfl rfl ?_) | (apply Ga.store; refine AWs.stF (ao rfl) (ao rfl) rfl (tab_of rfl) rfl rfl rfl ?_) | (refine AWs.q rfl rfl ?_; first | (apply Gt.move; refine ⟨_, Qs.move (ao rfl), ?_⟩) | (apply Gt.assign; refine ⟨_, Qs.assign (ao rfl), ?_⟩) | (apply Gt.bin; refine ⟨_, Qs.cmpF rfl (ao rfl) (ao rfl) (by first | (simp only [cmpP, List.length_cons, List.length_nil]; omega) | (simp [cmpP]; done) | (simp [cmpP]; omega)), ?_⟩) | (apply Gt.ext; refine ⟨_, Qs.ext (ao rfl) rfl, ?_⟩) | (apply Gt.pick; first | refine ⟨_, Qs.pickT (ao rfl) (ao rfl), ?_⟩ | refine ⟨_, Qs.pickF (ao rfl) (ao rfl), ?_⟩) | (apply Gt.callv; first | refine ⟨_, Qs.call (ao rfl) (PVar_abs 0 (by omega)) (by first | ((repeat (first | exact ArgsLe.nil | refine ArgsLe.cons rfl (D.le.refl _) ?_ | refine ArgsLe.cons rfl D.le_nil ?_)); done) | fail), ?_⟩ | refine ⟨_, Qs.call (ao rfl) (PVar_abs 1 (by omega)) (by first | ((repeat (first | exact ArgsLe.nil | refine ArgsLe.cons rfl (D.le.refl _) ?_ | refine ArgsLe.cons rfl D.le_nil ?_)); done) | fail), ?_⟩ | refine ⟨_, Qs.call (ao rfl) (RWhole_abs 1 (by omega) (by omega)) (by first | ((repeat (first | exact ArgsLe.nil | refine ArgsLe.cons rfl (D.le.refl _) ?_ | refine ArgsLe.cons rfl D.le_nil ?_)); done) | fail), ?_⟩ | refine ⟨_, Qs.call (ao rfl) (PConst_abs (1 : Int)) (by first | ((repeat (first | exact ArgsLe.nil | refine ArgsLe.cons rfl (D.le.refl _) ?_ | refine ArgsLe.cons rfl D.le_nil ?_)); done) | fail), ?_⟩ | refine ⟨_, Qs.call (ao rfl) (RX_abs 0 (by omega)) (by first | ((repeat (first | exact ArgsLe.nil | refine ArgsLe.cons rfl (D.le.refl _) ?_ | refine ArgsLe.cons rfl D.le_nil ?_)); done) | fail), ?_⟩ | refine ⟨_, Qs.call (ao rfl) (RInt_abs 1 (by omega) (by omega)) (by first | ((repeat (first | exact ArgsLe.nil | refine ArgsLe.cons rfl (D.le.refl _) ?_ | refine ArgsLe.cons rfl D.le_nil ?_)); done) | fail), ?_⟩ | refine ⟨_, Qs.call (ao rfl) (PAdd_pb hx h1 (by omega) (by omega)) (by first | ((repeat (first | exact ArgsLe.nil | refine ArgsLe.cons rfl (D.le.refl _) ?_ | refine ArgsLe.cons rfl D.le_nil ?_)); done) | fail), ?_⟩ | refine ⟨_, Qs.call (ao rfl) (PSub_pb hx h1 (by omega) (by omega)) (by first | ((repeat (first | exact ArgsLe.nil | refine ArgsLe.cons rfl (D.le.refl _) ?_ | refine ArgsLe.cons rfl D.le_nil ?_)); done) | fail), ?_⟩ | refine ⟨_, Qs.call (ao rfl) (PMul_pb ha hs (by omega) (by omega) (by omega) (by omega) (by omega)) (by first | ((repeat (first | exact ArgsLe.nil | refine ArgsLe.cons rfl (D.le.refl _) ?_ | refine ArgsLe.cons rfl D.le_nil ?_)); done) | fail), ?_⟩ | refine ⟨_, Qs.call (ao rfl) (got_abs _) (by first | ((repeat (first | exact ArgsLe.nil | refine ArgsLe.cons rfl (D.le.refl _) ?_ | refine ArgsLe.cons rfl D.le_nil ?_)); done) | fail), ?_⟩ | refine ⟨_, Qs.call (ao rfl) (cyy) (by first | ((repeat (first | exact ArgsLe.nil | refine ArgsLe.cons rfl (D.le.refl _) ?_ | refine ArgsLe.cons rfl D.le_nil ?_)); done) | fail), ?_⟩ | refine ⟨_, Qs.call (ao rfl) (csum) (by first | ((repeat (first | exact ArgsLe.nil | refine ArgsLe.cons rfl (D.le.refl _) ?_ | refine ArgsLe.cons rfl D.le_nil ?_)); done) | fail), ?_⟩ | refine ⟨_, Qs.call (ao rfl) (RGraded_abs) (by first | ((repeat (first | exact ArgsLe.nil | refine ArgsLe.cons rfl (D.le.refl _) ?_ | refine ArgsLe.cons rfl D.le_nil ?_)); done) | fail), ?_⟩ | refine ⟨_, Qs.call (ao rfl) (clead) (by first | ((repeat (first | exact ArgsLe.nil | refine ArgsLe.cons rfl (D.le.refl _) ?_ | refine ArgsLe.cons rfl D.le_nil ?_)); done) | fail), ?_⟩ | refine ⟨_, Qs.call (ao rfl) (RLex_abs) (by first | ((repeat (first | exact ArgsLe.nil | refine ArgsLe.cons rfl (D.le.refl _) ?_ | refine ArgsLe.cons rfl D.le_nil ?_)); done) | fail), ?_⟩ | refine ⟨_, Qs.call (ao rfl) (PLead0_abs []) (by first | ((repeat (first | exact ArgsLe.nil | refine ArgsLe.cons rfl (D.le.refl _) ?_ | refine ArgsLe.cons rfl D.le_nil ?_)); done) | fail), ?_⟩ | refine ⟨_, Qs.call (ao rfl) (RBy_pb hx hx (by omega) (by omega) (by omega) (by omega) (by omega) (by omega)) (by first | ((repeat (first | exact ArgsLe.nil | refine ArgsLe.cons rfl (D.le.refl _) ?_ | refine ArgsLe.cons rfl D.le_nil ?_)); done) | fail), ?_⟩ | refine ⟨_, Qs.call (ao rfl) (RSub_pb hxx h1 (by omega) (by omega) (by omega)) (by first | ((repeat (first | exact ArgsLe.nil | refine ArgsLe.cons rfl (D.le.refl _) ?_ | refine ArgsLe.cons rfl D.le_nil ?_)); done) | fail), ?_⟩ | refine ⟨_, Qs.call (ao rfl) (csq) (by first | ((repeat (first | exact ArgsLe.nil | refine ArgsLe.cons rfl (D.le.refl _) ?_ | refine ArgsLe.cons rfl D.le_nil ?_)); done) | fail), ?_⟩)) | (refine AWs.qG rfl rfl rfl rfl rfl ?_; first | (apply Gt.move; refine ⟨_, Qs.move (ao rfl), ?_⟩) | (apply Gt.load; refine ⟨_, Qs.ldD (ao rfl) rfl (tab_of rfl) rfl rfl, ?_⟩) | (apply Gt.fieldAddr; refine ⟨_, Qs.fldP (ao rfl) (tab_of rfl) rfl (tab_of rfl) rfl, ?_⟩) | (apply Gt.bin; first | refine ⟨_, Qs.cmpF rfl (ao rfl) (ao rfl) (by first | (simp only [cmpP, List.length_cons, List.length_nil]; omega) | (simp [cmpP]; done) | (simp [cmpP]; omega)), ?_⟩ | refine ⟨_, Qs.cmp (ao rfl) (ao rfl) rfl, ?_⟩) | (apply Gt.un; refine ⟨_, Qs.not (ao rfl), ?_⟩) | (apply Gt.build; (refine Bq.arr (tab_of rfl) (tab_of rfl) rfl rfl ?_; (repeat ((first | refine ⟨_, PartOk.ag (ao rfl), ?_⟩ | refine ⟨_, PartOk.one rfl (by first | exact One.ex_ rfl | exact One.sl | exact One.ep), ?_⟩); refine ⟨_, rfl, ?_⟩)); refine ⟨_, rfl, ?_⟩)) | (apply Gt.callv; first | refine ⟨_, Qs.call (ao rfl) (RX_abs 0 (by omega)) (by first | ((repeat (first | exact ArgsLe.nil | refine ArgsLe.cons rfl (D.le.refl _) ?_ | refine ArgsLe.cons rfl D.le_nil ?_)); done) | fail), ?_⟩ | refine ⟨_, Qs.call (ao rfl) (RX_abs 1 (by omega)) (by first | ((repeat (first | exact ArgsLe.nil | refine ArgsLe.cons rfl (D.le.refl _) ?_ | refine ArgsLe.cons rfl D.le_nil ?_)); done) | fail), ?_⟩ | refine ⟨_, Qs.call (ao rfl) (RSame_true (SameL.refl [⟨1, unitE 0⟩])) (by first | ((repeat (first | exact ArgsLe.nil | refine ArgsLe.cons rfl (D.le.refl _) ?_ | refine ArgsLe.cons rfl D.le_nil ?_)); done) | fail), ?_⟩ | refine ⟨_, Qs.call (ao rfl) (RSame_true (SameL.refl [⟨1, unitE 1⟩])) (by first | ((repeat (first | exact ArgsLe.nil | refine ArgsLe.cons rfl (D.le.refl _) ?_ | refine ArgsLe.cons rfl D.le_nil ?_)); done) | fail), ?_⟩ | refine ⟨_, Qs.call (ao rfl) (RSame_true (SameL.refl (constL (1 : Int)))) (by first | ((repeat (first | exact ArgsLe.nil | refine ArgsLe.cons rfl (D.le.refl _) ?_ | refine ArgsLe.cons rfl D.le_nil ?_)); done) | fail), ?_⟩ | refine ⟨_, Qs.call (ao rfl) (RInt_abs 1 (by omega) (by omega)) (by first | ((repeat (first | exact ArgsLe.nil | refine ArgsLe.cons rfl (D.le.refl _) ?_ | refine ArgsLe.cons rfl D.le_nil ?_)); done) | fail), ?_⟩ | refine ⟨_, Qs.call (ao rfl) (cval) (by first | ((repeat (first | exact ArgsLe.nil | refine ArgsLe.cons rfl (D.le.refl _) ?_ | refine ArgsLe.cons rfl D.le_nil ?_)); done) | fail), ?_⟩ | refine ⟨_, Qs.call (ao rfl) (PDeg_abs [] (fun t h => (by cases h)) (by simp)) (by first | ((repeat (first | exact ArgsLe.nil | refine ArgsLe.cons rfl (D.le.refl _) ?_ | refine ArgsLe.cons rfl D.le_nil ?_)); done) | fail), ?_⟩)) | apply AWl.nil | apply AThen.normal | apply AWp.skip | apply AWp.ret | (apply Gc.cond; refine AWp.condF (ao rfl) ?_))
 exact Fin.ret (Rets.of1 (ResV.tmp rfl rfl) (D.le.refl _))
end Go.Proofs.YteicdddphdomkaaGreat
namespace Go.Proofs.YteicdddphdomkaaGreat
open Go.RowKit
set_option maxRecDepth 100000
set_option maxHeartbeats 8000000 in
theorem ring_abs (T U V : Nat) (X Y Z : List (Nat → Int)) (hX : Raw8 X) (hY : Raw8 Y) (hZ : Raw8 Z) : Abs Tryz.prog 4 [agD [r5D T X], agD [r5D U Y], agD [r5D V Z]] (ex (.bool true)) := by
 have hp : PB (madeP X 4 5 6) 6 18 5 := madeP_pb X 4 6 (by omega)
 have hq : PB (madeP Y 4 5 6) 6 18 5 := madeP_pb Y 4 6 (by omega)
 have hr : PB (madeP Z 4 5 6) 6 18 5 := madeP_pb Z 4 6 (by omega)
 have cp := poly_abs T X hX
 have cq := poly_abs U Y hY
 have cr := poly_abs V Z hZ
 generalize madeP X 4 5 6 = p at hp cp
 generalize madeP Y 4 5 6 = q at hq cq
 generalize madeP Z 4 5 6 = r at hr cr
 have hpq : PB (pmul p q) 36 222 10 := hp.mul hq (by omega) (by omega)
 have hqp : PB (pmul q p) 36 222 10 := hq.mul hp (by omega) (by omega)
 have hqr : PB (pmul q r) 36 222 10 := hq.mul hr (by omega) (by omega)
 have hpr : PB (pmul p r) 36 222 10 := hp.mul hr (by omega) (by omega)
 have hs : PB (mrg q r) 12 37 5 := hq.add hr
 have hs' : PB (mrg r q) 12 37 5 := hr.add hq
 have hl : PB (pmul p (mrg q r)) 72 336 10 := hp.mul hs (by omega) (by omega)
 have hri : PB (mrg (pmul p q) (pmul p r)) 72 445 10 := hpq.add hpr
 have ha : PB (pmul (pmul p q) r) 216 8676 15 := hpq.mul hr (by omega) (by omega)
 have hb : PB (pmul p (pmul q r)) 216 1446 15 := hp.mul hqr (by omega) (by omega)
 have h1 : PB (constL (1 : Int)) 1 1 1 := one_pol
 have hp1 : PB (pmul p (constL (1 : Int))) 6 120 6 := hp.mul h1 (by omega) (by omega)
 have h0 : PB [] 0 0 0 := PB.nil
 have hd : PB (psub p q) 12 37 5 := hp.sub hq
 have hdq : PB (mrg (psub p q) q) 18 56 5 := hd.add hq
 have cpp := PSub_pb hp hp (by omega) (by omega)
 rw [psub_self (hp.sub hp).can] at cpp
 have cp0 := PAdd_pb hp h0 (by omega) (by omega)
 rw [mrg_nil] at cp0
 have hz : (p.length = 0 ∧ (pmul p q).length = 0) ∨ (p.length ≠ 0 ∧ q.length = 0 ∧ (pmul p q).length = 0) ∨ (p.length ≠ 0 ∧ q.length ≠ 0 ∧ (pmul p q).length ≠ 0) := by
  by_cases e : p = []
  ·left; rw [e]; exact ⟨rfl, rfl⟩
  ·have e1 : p.length ≠ 0 := fun h => e (List.eq_nil_of_length_eq_zero h)
   by_cases e' : q = []
   ·right; left
    rw [e', pmul_nil_right (by rw [← e']; exact hpq.can)]
    exact ⟨e1, rfl, rfl⟩
   ·right; right
    exact ⟨e1, fun h => e' (List.eq_nil_of_length_eq_zero h), fun h => pmul_ne hp.can hq.can e e' (List.eq_nil_of_length_eq_zero h)⟩
 rcases hz with ⟨z1, z2⟩ | ⟨z1, z2, z3⟩ | ⟨z1, z2, z3⟩
 all_goals
  refine Abs.intro Tryz.func4 rfl (callFunc_run Tryz.func4 (by kernel_rfl) (by kernel_rfl)) rfl fun s0 => ?_
  rw [Tryz.ntmps4]
  repeat (first | apply AWp.seq | apply AWp.region | (apply Ga.box; refine AWs.bx (ao rfl) rfl rfl rfl rfl ?_) | (refine AWs.q rfl rfl ?_; first | (apply Gt.move; refine ⟨_, Qs.move (ao rfl), ?_⟩) | (apply Gt.assign; refine ⟨_, Qs.assign (ao rfl), ?_⟩) | (apply Gt.un; refine ⟨_, Qs.not (ao rfl), ?_⟩) | (apply Gt.callv; refine ⟨_, Qs.call (ao rfl) (sanity_abs) (by first | ((repeat (first | exact ArgsLe.nil | refine ArgsLe.cons rfl (D.le.refl _) ?_ | refine ArgsLe.cons rfl D.le_nil ?_)); done) | fail), ?_⟩)) | apply AWl.nil | apply AThen.normal | apply AWp.skip | (apply Gc.cond; refine AWp.condF (ao rfl) ?_))
  refine AWp.dr' (DrawOk.self (by kernel_rfl)) [[], [(20, 0)], [], [(22, 2)], [], [(24, 4)]] [[], [0], [], [0, 1, 2], [], [0, 1, 2, 3, 4]] rfl (by kernel_rfl) (by kernel_rfl) (by kernel_rfl) ?_
  repeat (first | refine ⟨_, rfl, ?_⟩ | (apply Gh.load; (refine ⟨_, HStep.q rfl (Qs.ldD (ah rfl) rfl (tab_of rfl) rfl rfl), ?_⟩; refine ⟨_, rfl, ?_⟩)) | (apply Gh.callv; first | (refine ⟨_, HStep.q rfl (Qs.call (ah rfl) (cp) (by first | ((repeat (first | exact ArgsLe.nil | refine ArgsLe.cons rfl (D.le.refl _) ?_ | refine ArgsLe.cons rfl D.le_nil ?_)); done) | fail)), ?_⟩; refine ⟨_, rfl, ?_⟩) | (refine ⟨_, HStep.q rfl (Qs.call (ah rfl) (cq) (by first | ((repeat (first | exact ArgsLe.nil | refine ArgsLe.cons rfl (D.le.refl _) ?_ | refine ArgsLe.cons rfl D.le_nil ?_)); done) | fail)), ?_⟩; refine ⟨_, rfl, ?_⟩) | (refine ⟨_, HStep.q rfl (Qs.call (ah rfl) (cr) (by first | ((repeat (first | exact ArgsLe.nil | refine ArgsLe.cons rfl (D.le.refl _) ?_ | refine ArgsLe.cons rfl D.le_nil ?_)); done) | fail)), ?_⟩; refine ⟨_, rfl, ?_⟩)))
  repeat (first | apply AWp.seq | apply AWp.region | (refine AWs.q rfl rfl ?_; first | (apply Gt.move; refine ⟨_, Qs.move (ao rfl), ?_⟩) | (apply Gt.assign; refine ⟨_, Qs.assign (ao rfl), ?_⟩) | (apply Gt.un; refine ⟨_, Qs.not (ao rfl), ?_⟩) | (apply Gt.ext; refine ⟨_, Qs.ext (ao rfl) rfl, ?_⟩) | (apply Gt.pick; first | refine ⟨_, Qs.pickT (ao rfl) (ao rfl), ?_⟩ | refine ⟨_, Qs.pickF (ao rfl) (ao rfl), ?_⟩) | (apply Gt.callv; first | refine ⟨_, Qs.call (ao rfl) (PMul_pb hp hq (by omega) (by omega) (by omega) (by omega) (by omega)) (by first | ((repeat (first | exact ArgsLe.nil | refine ArgsLe.cons rfl (D.le.refl _) ?_ | refine ArgsLe.cons rfl D.le_nil ?_)); done) | fail), ?_⟩ | refine ⟨_, Qs.call (ao rfl) (PMul_pb hq hr (by omega) (by omega) (by omega) (by omega) (by omega)) (by first | ((repeat (first | exact ArgsLe.nil | refine ArgsLe.cons rfl (D.le.refl _) ?_ | refine ArgsLe.cons rfl D.le_nil ?_)); done) | fail), ?_⟩ | refine ⟨_, Qs.call (ao rfl) (PMul_pb hp hs (by omega) (by omega) (by omega) (by omega) (by omega)) (by first | ((repeat (first | exact ArgsLe.nil | refine ArgsLe.cons rfl (D.le.refl _) ?_ | refine ArgsLe.cons rfl D.le_nil ?_)); done) | fail), ?_⟩ | refine ⟨_, Qs.call (ao rfl) (PMul_pb hp hr (by omega) (by omega) (by omega) (by omega) (by omega)) (by first | ((repeat (first | exact ArgsLe.nil | refine ArgsLe.cons rfl (D.le.refl _) ?_ | refine ArgsLe.cons rfl D.le_nil ?_)); done) | fail), ?_⟩ | refine ⟨_, Qs.call (ao rfl) (got_abs _) (by first | ((repeat (first | exact ArgsLe.nil | refine ArgsLe.cons rfl (D.le.refl _) ?_ | refine ArgsLe.cons rfl D.le_nil ?_)); done) | fail), ?_⟩ | refine ⟨_, Qs.call (ao rfl) (RPValid_pb hpq (by omega) (by omega) (by omega)) (by first | ((repeat (first | exact ArgsLe.nil | refine ArgsLe.cons rfl (D.le.refl _) ?_ | refine ArgsLe.cons rfl D.le_nil ?_)); done) | fail), ?_⟩ | refine ⟨_, Qs.call (ao rfl) (RPValid_pb hs (by omega) (by omega) (by omega)) (by first | ((repeat (first | exact ArgsLe.nil | refine ArgsLe.cons rfl (D.le.refl _) ?_ | refine ArgsLe.cons rfl D.le_nil ?_)); done) | fail), ?_⟩ | refine ⟨_, Qs.call (ao rfl) (PAdd_pb hq hr (by omega) (by omega)) (by first | ((repeat (first | exact ArgsLe.nil | refine ArgsLe.cons rfl (D.le.refl _) ?_ | refine ArgsLe.cons rfl D.le_nil ?_)); done) | fail), ?_⟩ | refine ⟨_, Qs.call (ao rfl) (PAdd_pb hpq hpr (by omega) (by omega)) (by first | ((repeat (first | exact ArgsLe.nil | refine ArgsLe.cons rfl (D.le.refl _) ?_ | refine ArgsLe.cons rfl D.le_nil ?_)); done) | fail), ?_⟩ | refine ⟨_, Qs.call (ao rfl) (RSame_sim hl.can hri.can (pmul_add p q r)) (by first | ((repeat (first | exact ArgsLe.nil | refine ArgsLe.cons rfl (D.le.refl _) ?_ | refine ArgsLe.cons rfl D.le_nil ?_)); done) | fail), ?_⟩)) | refine AWs.sG rfl rfl rfl rfl rfl ?_ | (refine AWs.qG rfl rfl rfl rfl rfl ?_; first | (apply Gt.move; refine ⟨_, Qs.move (ao rfl), ?_⟩) | (apply Gt.len; refine ⟨_, Qs.lenN rfl (tab_of rfl), ?_⟩) | (apply Gt.bin; first | refine ⟨_, Qs.cmpT rfl (ao rfl) (ao rfl) (by first | (simp only [cmpP, List.length_cons, List.length_nil]; omega) | (simp [cmpP]; done) | (simp [cmpP]; omega)), ?_⟩ | refine ⟨_, Qs.cmpF rfl (ao rfl) (ao rfl) (by first | (simp only [cmpP, List.length_cons, List.length_nil]; omega) | (simp [cmpP]; done) | (simp [cmpP]; omega)), ?_⟩ | refine ⟨_, Qs.neBool (ao rfl) (ao rfl) (by kernel_rfl), ?_⟩) | (apply Gt.un; refine ⟨_, Qs.not (ao rfl), ?_⟩) | (apply Gt.ext; refine ⟨_, Qs.ext (ao rfl) rfl, ?_⟩) | (apply Gt.pick; first | refine ⟨_, Qs.pickT (ao rfl) (ao rfl), ?_⟩ | refine ⟨_, Qs.pickF (ao rfl) (ao rfl), ?_⟩) | (apply Gt.callv; first | refine ⟨_, Qs.call (ao rfl) (PMul_pb hq hp (by omega) (by omega) (by omega) (by omega) (by omega)) (by first | ((repeat (first | exact ArgsLe.nil | refine ArgsLe.cons rfl (D.le.refl _) ?_ | refine ArgsLe.cons rfl D.le_nil ?_)); done) | fail), ?_⟩ | refine ⟨_, Qs.call (ao rfl) (PMul_pb hpq hr (by omega) (by omega) (by omega) (by omega) (by omega)) (by first | ((repeat (first | exact ArgsLe.nil | refine ArgsLe.cons rfl (D.le.refl _) ?_ | refine ArgsLe.cons rfl D.le_nil ?_)); done) | fail), ?_⟩ | refine ⟨_, Qs.call (ao rfl) (PMul_pb hp hqr (by omega) (by omega) (by omega) (by omega) (by omega)) (by first | ((repeat (first | exact ArgsLe.nil | refine ArgsLe.cons rfl (D.le.refl _) ?_ | refine ArgsLe.cons rfl D.le_nil ?_)); done) | fail), ?_⟩ | refine ⟨_, Qs.call (ao rfl) (PMul_pb hp h1 (by omega) (by omega) (by omega) (by omega) (by omega)) (by first | ((repeat (first | exact ArgsLe.nil | refine ArgsLe.cons rfl (D.le.refl _) ?_ | refine ArgsLe.cons rfl D.le_nil ?_)); done) | fail), ?_⟩ | refine ⟨_, Qs.call (ao rfl) (got_abs _) (by first | ((repeat (first | exact ArgsLe.nil | refine ArgsLe.cons rfl (D.le.refl _) ?_ | refine ArgsLe.cons rfl D.le_nil ?_)); done) | fail), ?_⟩ | refine ⟨_, Qs.call (ao rfl) (RPValid_pb hqr (by omega) (by omega) (by omega)) (by first | ((repeat (first | exact ArgsLe.nil | refine ArgsLe.cons rfl (D.le.refl _) ?_ | refine ArgsLe.cons rfl D.le_nil ?_)); done) | fail), ?_⟩ | refine ⟨_, Qs.call (ao rfl) (RSame_sim hpq.can hqp.can (pmul_comm p q)) (by first | ((repeat (first | exact ArgsLe.nil | refine ArgsLe.cons rfl (D.le.refl _) ?_ | refine ArgsLe.cons rfl D.le_nil ?_)); done) | fail), ?_⟩ | refine ⟨_, Qs.call (ao rfl) (PAdd_pb hr hq (by omega) (by omega)) (by first | ((repeat (first | exact ArgsLe.nil | refine ArgsLe.cons rfl (D.le.refl _) ?_ | refine ArgsLe.cons rfl D.le_nil ?_)); done) | fail), ?_⟩ | refine ⟨_, Qs.call (ao rfl) (RSame_sim hs.can hs'.can (padd_comm q r)) (by first | ((repeat (first | exact ArgsLe.nil | refine ArgsLe.cons rfl (D.le.refl _) ?_ | refine ArgsLe.cons rfl D.le_nil ?_)); done) | fail), ?_⟩ | refine ⟨_, Qs.call (ao rfl) (cpp) (by first | ((repeat (first | exact ArgsLe.nil | refine ArgsLe.cons rfl (D.le.refl _) ?_ | refine ArgsLe.cons rfl D.le_nil ?_)); done) | fail), ?_⟩ | refine ⟨_, Qs.call (ao rfl) (RSame_sim ha.can hb.can (pmul_assoc p q r)) (by first | ((repeat (first | exact ArgsLe.nil | refine ArgsLe.cons rfl (D.le.refl _) ?_ | refine ArgsLe.cons rfl D.le_nil ?_)); done) | fail), ?_⟩ | refine ⟨_, Qs.call (ao rfl) (cp0) (by first | ((repeat (first | exact ArgsLe.nil | refine ArgsLe.cons rfl (D.le.refl _) ?_ | refine ArgsLe.cons rfl D.le_nil ?_)); done) | fail), ?_⟩ | refine ⟨_, Qs.call (ao rfl) (RSame_true (SameL.refl p)) (by first | ((repeat (first | exact ArgsLe.nil | refine ArgsLe.cons rfl (D.le.refl _) ?_ | refine ArgsLe.cons rfl D.le_nil ?_)); done) | fail), ?_⟩ | refine ⟨_, Qs.call (ao rfl) (RWhole_abs 1 (by omega) (by omega)) (by first | ((repeat (first | exact ArgsLe.nil | refine ArgsLe.cons rfl (D.le.refl _) ?_ | refine ArgsLe.cons rfl D.le_nil ?_)); done) | fail), ?_⟩ | refine ⟨_, Qs.call (ao rfl) (PConst_abs (1 : Int)) (by first | ((repeat (first | exact ArgsLe.nil | refine ArgsLe.cons rfl (D.le.refl _) ?_ | refine ArgsLe.cons rfl D.le_nil ?_)); done) | fail), ?_⟩ | refine ⟨_, Qs.call (ao rfl) (RSame_sim hp1.can hp.can (pmul_one p)) (by first | ((repeat (first | exact ArgsLe.nil | refine ArgsLe.cons rfl (D.le.refl _) ?_ | refine ArgsLe.cons rfl D.le_nil ?_)); done) | fail), ?_⟩ | refine ⟨_, Qs.call (ao rfl) (PSub_pb hp hq (by omega) (by omega)) (by first | ((repeat (first | exact ArgsLe.nil | refine ArgsLe.cons rfl (D.le.refl _) ?_ | refine ArgsLe.cons rfl D.le_nil ?_)); done) | fail), ?_⟩ | refine ⟨_, Qs.call (ao rfl) (PAdd_pb hd hq (by omega) (by omega)) (by first | ((repeat (first | exact ArgsLe.nil | refine ArgsLe.cons rfl (D.le.refl _) ?_ | refine ArgsLe.cons rfl D.le_nil ?_)); done) | fail), ?_⟩ | refine ⟨_, Qs.call (ao rfl) (RSame_sim hdq.can hp.can (padd_sub p q)) (by first | ((repeat (first | exact ArgsLe.nil | refine ArgsLe.cons rfl (D.le.refl _) ?_ | refine ArgsLe.cons rfl D.le_nil ?_)); done) | fail), ?_⟩)) | apply AWl.nil | apply AThen.normal | apply AWp.skip | apply AWp.ret | (apply Gc.cond; refine AWp.condF (ao rfl) ?_))
  exact Fin.ret (Rets.of1 (ResV.tmp rfl rfl) (D.le.refl _))
end Go.Proofs.YteicdddphdomkaaGreat
