/-
  Part 5 of the proof that polynomialRing_holds holds; the statement is the last theorem of the last part. No condition.
-/
import Derived.Test.YteicdddphdomkaaGreatRi4
set_option linter.unusedSimpArgs false
set_option linter.unusedVariables false
namespace Go.Proofs.YteicdddphdomkaaGreat
open Go.RowKit
def fT (f : Rat → Rat) (t : Tm) : Tm := ⟨f t.c, t.m⟩
def mrgF (f : Rat → Rat) (P Q : List Tm) : List Tm := mrg P (Q.map (fT f))
theorem mrgF_gt {f : Rat → Rat} {s t : Tm} {P Q : List Tm} (h : lx s.m t.m = 1) : mrgF f (s :: P) (t :: Q) = s :: mrgF f P (t :: Q) := by
 unfold mrgF
 rw [List.map_cons, mrg, if_pos (show 0 < lx s.m (fT f t).m by show 0 < lx s.m t.m; omega)]
theorem mrgF_lt {f : Rat → Rat} {s t : Tm} {P Q : List Tm} (h : lx s.m t.m = -1) : mrgF f (s :: P) (t :: Q) = fT f t :: mrgF f (s :: P) Q := by
 unfold mrgF
 rw [List.map_cons, mrg, if_neg (show ¬ 0 < lx s.m (fT f t).m by show ¬ 0 < lx s.m t.m; omega), if_pos (show lx s.m (fT f t).m < 0 by show lx s.m t.m < 0; omega)]
theorem mrgF_eq {f : Rat → Rat} {s t : Tm} {P Q : List Tm} (h : lx s.m t.m = 0) : mrgF f (s :: P) (t :: Q) = if s.c + f t.c = 0 then mrgF f P Q else ⟨s.c + f t.c, s.m⟩ :: mrgF f P Q := by
 unfold mrgF
 rw [List.map_cons, mrg, if_neg (show ¬ 0 < lx s.m (fT f t).m by show ¬ 0 < lx s.m t.m; omega), if_neg (show ¬ lx s.m (fT f t).m < 0 by show ¬ lx s.m t.m < 0; omega)]
 rfl
theorem mrgF_nil {f : Rat → Rat} {P Q : List Tm} (h : P = [] ∨ Q = []) : mrgF f P Q = P ++ Q.map (fT f) := by
 rcases h with rfl | rfl
 ·simp [mrgF, mrg]
 ·simp [mrgF, mrg_nil]
set_option maxRecDepth 100000 in
set_option maxHeartbeats 1000000 in
theorem merge_abs (P Q : List Tm) (fid : FuncId) (f : Rat → Rat) (N M : Nat) (hP : PSz P N) (hQ : PSz Q M) (hNM : N + M + 1 ≤ 4398046511104) (hfs : ∀ q, RSz q M → RSz (f q) M) (hn : P.length + Q.length ≤ 100000)
  (hf : ∀ q, RSz q M → Abs Tryz.prog fid [agD (ratC q)] (agD (ratC (f q)))) :
  Abs Tryz.prog 79 [polD P, polD Q, ex (.func (.func fid) #[] #[])] (polD (mrgF f P Q)) := by
 refine Abs.intro Tryz.func79 rfl (callFunc_run Tryz.func79 (by kernel_rfl) (by kernel_rfl)) rfl fun s0 => ?_
 rw [Tryz.ntmps79]
 repeat (first | apply AWp.seq | apply AWp.region | (apply Ga.mk; refine AWs.mk0 (ao rfl) (ao rfl) (tab_of rfl) (tab_of rfl) (by omega) (by omega) rfl rfl rfl rfl rfl rfl ?_) | (refine AWs.q rfl rfl ?_; first | (apply Gt.move; refine ⟨_, Qs.move (ao rfl), ?_⟩) | (apply Gt.assign; refine ⟨_, Qs.assign (ao rfl), ?_⟩) | (apply Gt.len; refine ⟨_, Qs.lenN rfl (tab_of rfl), ?_⟩) | (apply Gt.add; refine ⟨_, Qs.add (ao rfl) (ao rfl) (by omega) (by omega), ?_⟩)) | apply AWl.nil | apply AThen.normal | apply AWp.block)
 refine AWp.loop (fun m σ => ∃ P' Q' R, R ++ mrgF f P' Q' = mrgF f P Q ∧ PSz P' N ∧ PSz Q' M ∧ R.length + P'.length + Q'.length ≤ 100000 ∧ m = P'.length + Q'.length ∧ σ = ⟨[(0, .d (polD P')), (1, .d (polD Q')), (2, .d (ex (.func (.func fid) #[] #[]))), (7, .own 0)], [.row 33 12 (R.map tmC)]⟩) ?le ⟨P, Q, [], rfl, hP, hQ, by simpa using hn, rfl, rfl⟩ ?round
 case le => exact AS.le_of (by repeat (first | exact FrLe.nil | refine FrLe.cons rfl (AVle.d rfl) ?_ | refine FrLe.cons rfl (AVle.own rfl) ?_)) (by repeat (first | exact HpLe.nil | refine HpLe.cons (OwLe.row rfl) ?_))
 case round =>
  rintro m _ ⟨P', Q', R, heq, hP', hQ', hl, rfl, rfl⟩
  rcases (show (0 < P'.length ∧ 0 < Q'.length) ∨ P'.length = 0 ∨ (0 < P'.length ∧ Q'.length = 0) by omega) with ⟨h1, h2⟩ | h1 | ⟨h1, h2⟩
  ·obtain ⟨s, P', rfl⟩ : ∃ s P1, P' = s :: P1 := by cases P' with | nil => simp at h1 | cons s P1 => exact ⟨s, P1, rfl⟩
   obtain ⟨t, Q', rfl⟩ : ∃ t Q1, Q' = t :: Q1 := by cases Q' with | nil => simp at h2 | cons t Q1 => exact ⟨t, Q1, rfl⟩
   simp only [List.length_cons] at hl
   have hs := hP' s (by simp)
   have ht := hQ' t (by simp)
   have hP1 : PSz P' N := fun u hu => hP' u (by simp [hu])
   have hQ1 : PSz Q' M := fun u hu => hQ' u (by simp [hu])
   repeat (first | apply AWp.seq | apply AWp.region | (refine AWs.q rfl rfl ?_; first | (apply Gt.move; refine ⟨_, Qs.move (ao rfl), ?_⟩) | (apply Gt.len; refine ⟨_, Qs.lenN rfl (tab_of rfl), ?_⟩) | (apply Gt.bin; refine ⟨_, Qs.cmpT rfl (ao rfl) (ao rfl) (by first | (simp only [cmpP, List.length_cons, List.length_nil]; omega) | (simp [cmpP]; done) | (simp [cmpP]; omega)), ?_⟩) | (apply Gt.pick; refine ⟨_, Qs.pickT (ao rfl) (ao rfl), ?_⟩)) | (refine AWs.qG rfl rfl rfl rfl rfl ?_; first | (apply Gt.move; refine ⟨_, Qs.move (ao rfl), ?_⟩) | (apply Gt.len; refine ⟨_, Qs.lenN rfl (tab_of rfl), ?_⟩) | (apply Gt.bin; refine ⟨_, Qs.cmpT rfl (ao rfl) (ao rfl) (by first | (simp only [cmpP, List.length_cons, List.length_nil]; omega) | (simp [cmpP]; done) | (simp [cmpP]; omega)), ?_⟩)) | apply AWl.nil | apply AThen.normal | apply AWp.block | apply AWp.skip | (apply Gc.cond; refine AWp.condT (ao rfl) ?_))
   refine AWp.dr' (DrawOk.self (by kernel_rfl)) [[], [(25, 0)], [(26, 1)], [(27, 2)], [], [(29, 4)], [(30, 5)], [(31, 6)], [(28, 3), (32, 7)]] [[], [0], [0, 1], [0, 1, 2], [], [4], [4, 5], [4, 5, 6], [0, 1, 2, 3, 4, 5, 6, 7]] rfl (by kernel_rfl) (by kernel_rfl) (by kernel_rfl) ?_
   repeat (first | refine ⟨_, rfl, ?_⟩ | (apply Gh.move; (refine ⟨_, HStep.q rfl (Qs.move (ah rfl)), ?_⟩; refine ⟨_, rfl, ?_⟩)) | (apply Gh.load; (refine ⟨_, HStep.q rfl (Qs.loadEf (ah rfl) (tab_of rfl) rfl rfl), ?_⟩; refine ⟨_, rfl, ?_⟩)) | (apply Gh.fieldAddr; (refine ⟨_, HStep.q rfl (Qs.fldE (ah rfl) (tab_of rfl) rfl (tab_of rfl) rfl rfl), ?_⟩; refine ⟨_, rfl, ?_⟩)) | (apply Gh.indexAddr; (refine ⟨_, HStep.q rfl (Qs.index0 rfl (ah rfl) (tab_of rfl) (tab_of rfl) rfl), ?_⟩; refine ⟨_, rfl, ?_⟩)) | (apply Gh.callv; (refine ⟨_, HStep.q rfl (Qs.call (ah rfl) (mCmp_abs s.m t.m) (by repeat (first | exact ArgsLe.nil | refine ArgsLe.cons rfl (D.le.refl _) ?_ | refine ArgsLe.cons rfl D.le_nil ?_))), ?_⟩; refine ⟨_, rfl, ?_⟩)))
   rcases lx_val s.m t.m with hc | hc | hc
   ·have hc' : lex8 s.m t.m = -1 := by rw [← lx_lex]; exact hc
    simp only [hc']
    repeat (first | apply AWp.seq | apply AWp.region | (refine AWs.q rfl rfl ?_; first | (apply Gt.assign; refine ⟨_, Qs.assign (ao rfl), ?_⟩) | (apply Gt.bin; first | refine ⟨_, Qs.cmpT rfl (ao rfl) (ao rfl) (by first | (simp only [cmpP, List.length_cons, List.length_nil]; omega) | (simp [cmpP]; done) | (simp [cmpP]; omega)), ?_⟩ | refine ⟨_, Qs.cmpF rfl (ao rfl) (ao rfl) (by first | (simp only [cmpP, List.length_cons, List.length_nil]; omega) | (simp [cmpP]; done) | (simp [cmpP]; omega)), ?_⟩)) | apply AWl.nil | apply AThen.normal | apply AWp.block | (apply Gc.cond; first | refine AWp.condT (ao rfl) ?_ | refine AWp.condF (ao rfl) ?_))
    refine AWp.dr' (DrawOk.self (by kernel_rfl)) [[], [], [], [(75, 2)], [(76, 3)], [(77, 4)], [(74, 1), (78, 5)], [], [(80, 7)], [(81, 8)], [(82, 9)], [(79, 6), (83, 10)], [(84, 11)]] [[], [], [], [2], [2, 3], [2, 3, 4], [1, 2, 3, 4, 5], [], [7], [7, 8], [7, 8, 9], [1, 2, 3, 4, 5, 6, 7, 8, 9, 10], [1, 2, 3, 4, 5, 6, 7, 8, 9, 10, 11]] rfl (by kernel_rfl) (by kernel_rfl) (by kernel_rfl) ?_
    repeat (first | refine ⟨_, rfl, ?_⟩ | (apply Gh.move; (refine ⟨_, HStep.q rfl (Qs.move (ah rfl)), ?_⟩; refine ⟨_, rfl, ?_⟩)) | (apply Gh.load; first | (refine ⟨_, HStep.q rfl (Qs.loadEf (ah rfl) (tab_of rfl) rfl rfl), ?_⟩; refine ⟨_, rfl, ?_⟩) | (refine ⟨_, HStep.q rfl (Qs.ldE (ah rfl) (tab_of rfl) rfl rfl), ?_⟩; refine ⟨_, rfl, ?_⟩)) | (apply Gh.fieldAddr; (refine ⟨_, HStep.q rfl (Qs.fldE (ah rfl) (tab_of rfl) rfl (tab_of rfl) rfl rfl), ?_⟩; refine ⟨_, rfl, ?_⟩)) | (apply Gh.indexAddr; (refine ⟨_, HStep.q rfl (Qs.index0 rfl (ah rfl) (tab_of rfl) (tab_of rfl) rfl), ?_⟩; refine ⟨_, rfl, ?_⟩)) | (apply Gh.bslice; (refine ⟨_, HStep.q rfl (Bq.slice1 (ah rfl) (tab_of rfl) (tab_of rfl) rfl rfl rfl rfl rfl), ?_⟩; refine ⟨_, rfl, ?_⟩)) | (apply Gh.build; (refine Hq rfl ?_; refine Bq.build (tab_of rfl) rfl rfl rfl ?_; (repeat ((first | refine ⟨_, PartOk.ag (ah rfl), ?_⟩ | refine ⟨_, PartOk.one rfl (by first | exact One.ex_ rfl | exact One.sl | exact One.ep), ?_⟩); refine ⟨_, rfl, ?_⟩)); refine ⟨_, rfl, ?_⟩; refine ⟨_, rfl, ?_⟩)) | (apply Gh.callv; (refine ⟨_, HStep.q rfl (Qs.call (ah rfl) (hf t.c ht) (by repeat (first | exact ArgsLe.nil | refine ArgsLe.cons rfl (D.le.refl _) ?_ | refine ArgsLe.cons rfl D.le_nil ?_))), ?_⟩; refine ⟨_, rfl, ?_⟩)))
    repeat (first | apply AWp.region | (apply Ga.app; refine AWs.app (ao rfl) rfl rfl (tab_of rfl) (tab_of rfl) rfl rfl (by simp; omega) (by simp; omega) rfl (by repeat (first | exact PlainHp.nil | refine PlainHp.var ?_ | refine PlainHp.row ?_ | refine PlainHp.dead ?_)) rfl ?_) | (refine AWs.q rfl rfl ?_; first | (apply Gt.move; refine ⟨_, Qs.move (ao rfl), ?_⟩) | (apply Gt.assign; refine ⟨_, Qs.assign (ao rfl), ?_⟩) | (apply Gt.slice; refine ⟨_, Qs.tailN rfl (ao rfl) (tab_of rfl) (tab_of rfl) rfl, ?_⟩)) | apply AWl.nil | apply AThen.normal | apply ABlock.normal)
    refine ALoop.next _ ?_ ⟨s :: P', Q', R ++ [fT f t], ?_, hP', hQ1, ?_, rfl, rfl⟩ ?_
    ·simp only [List.length_cons]; omega
    ·rw [mrgF_lt hc] at heq
     rw [← heq]; simp
    ·simp only [List.length_cons, List.length_append, List.length_nil]; omega
    ·exact AS.le_of (by repeat (first | exact FrLe.nil | refine FrLe.cons rfl (AVle.d rfl) ?_ | refine FrLe.cons rfl (AVle.own rfl) ?_)) (by repeat (first | exact HpLe.nil | refine HpLe.cons (OwLe.row (map_snoc tmC R (fT f t))) ?_))
   ·have hc' : lex8 s.m t.m = 0 := by rw [← lx_lex]; exact hc
    simp only [hc']
    repeat (first | apply AWp.seq | apply AWp.region | (refine AWs.q rfl rfl ?_; first | (apply Gt.assign; refine ⟨_, Qs.assign (ao rfl), ?_⟩) | (apply Gt.bin; refine ⟨_, Qs.cmpF rfl (ao rfl) (ao rfl) (by first | (simp only [cmpP, List.length_cons, List.length_nil]; omega) | (simp [cmpP]; done) | (simp [cmpP]; omega)), ?_⟩)) | apply AWl.nil | apply AThen.normal | apply AWp.block | (apply Gc.cond; refine AWp.condF (ao rfl) ?_))
    refine AWp.dr' (DrawOk.self (by kernel_rfl)) [[], [(34, 0)], [(35, 1)], [(36, 2)], [], [], [(39, 5)], [(40, 6)], [(41, 7)], [(38, 4), (42, 8)], [(37, 3), (43, 9)], []] [[], [0], [0, 1], [0, 1, 2], [], [], [5], [5, 6], [5, 6, 7], [4, 5, 6, 7, 8], [0, 1, 2, 3, 4, 5, 6, 7, 8, 9], []] rfl (by kernel_rfl) (by kernel_rfl) (by kernel_rfl) ?_
    repeat (first | refine ⟨_, rfl, ?_⟩ | (apply Gh.alloc; refine ⟨_, HStep.n rfl (tab_of rfl) rfl (by decide) rfl, ?_⟩; refine ⟨_, rfl, ?_⟩) | (apply Gh.move; (refine ⟨_, HStep.q rfl (Qs.move (ah rfl)), ?_⟩; refine ⟨_, rfl, ?_⟩)) | (apply Gh.load; (refine ⟨_, HStep.q rfl (Qs.ldE (ah rfl) (tab_of rfl) rfl rfl), ?_⟩; refine ⟨_, rfl, ?_⟩)) | (apply Gh.fieldAddr; (refine ⟨_, HStep.q rfl (Qs.fldE (ah rfl) (tab_of rfl) rfl (tab_of rfl) rfl rfl), ?_⟩; refine ⟨_, rfl, ?_⟩)) | (apply Gh.indexAddr; (refine ⟨_, HStep.q rfl (Qs.index0 rfl (ah rfl) (tab_of rfl) (tab_of rfl) rfl), ?_⟩; refine ⟨_, rfl, ?_⟩)) | (apply Gh.callv; first | (refine ⟨_, HStep.q rfl (Qs.call (ah rfl) (hf t.c ht) (by repeat (first | exact ArgsLe.nil | refine ArgsLe.cons rfl (D.le.refl _) ?_ | refine ArgsLe.cons rfl D.le_nil ?_))), ?_⟩; refine ⟨_, rfl, ?_⟩) | (refine ⟨_, HStep.q rfl (Qs.call (ah rfl) (Add_abs s.c (f t.c) N M hs (hfs _ ht) hNM) (by repeat (first | exact ArgsLe.nil | refine ArgsLe.cons rfl (D.le.refl _) ?_ | refine ArgsLe.cons rfl D.le_nil ?_))), ?_⟩; refine ⟨_, rfl, ?_⟩)))
    by_cases hz : s.c + f t.c = 0
    ·have hsg : (s.c + f t.c).num.sign = 0 := by rw [hz]; rfl
     repeat (first | apply AWp.seq | apply AWp.region | (apply Ga.store; refine AWs.stF (ao rfl) (ao rfl) rfl (tab_of rfl) rfl rfl rfl ?_) | (refine AWs.q rfl rfl ?_; first | (apply Gt.load; refine ⟨_, Qs.ldD (ao rfl) rfl (tab_of rfl) rfl rfl, ?_⟩) | (apply Gt.bin; refine ⟨_, Qs.cmpF rfl (ao rfl) (ao rfl) (by first | (simp only [cmpP, List.length_cons, List.length_nil]; omega) | (simp [cmpP]; done) | (simp [cmpP]; omega)), ?_⟩) | (apply Gt.callv; refine ⟨_, Qs.call (ao rfl) (Sign_abs (s.c + f t.c)) (by repeat (first | exact ArgsLe.nil | refine ArgsLe.cons rfl (D.le.refl _) ?_ | refine ArgsLe.cons rfl D.le_nil ?_)), ?_⟩)) | apply AWl.nil | apply AThen.normal | apply AWp.skip | (apply Gc.cond; refine AWp.condF (ao rfl) ?_))
     refine AWp.dr' (DrawOk.self (by kernel_rfl)) [[], [(57, 0)], [], [(59, 2)], [(58, 1)]] [[], [0], [], [2], [0, 1]] rfl (by kernel_rfl) (by kernel_rfl) (by kernel_rfl) ?_
     repeat (first | refine ⟨_, rfl, ?_⟩ | (apply Gh.move; (refine ⟨_, HStep.q rfl (Qs.move (ah rfl)), ?_⟩; refine ⟨_, rfl, ?_⟩)) | (apply Gh.assign; (refine ⟨_, HStep.q rfl (Qs.assign (ah rfl)), ?_⟩; refine ⟨_, rfl, ?_⟩)) | (apply Gh.slice; (refine ⟨_, HStep.q rfl (Qs.tailN rfl (ah rfl) (tab_of rfl) (tab_of rfl) rfl), ?_⟩; refine ⟨_, rfl, ?_⟩)))
     repeat (first | (refine AWs.q rfl rfl ?_; (apply Gt.assign; refine ⟨_, Qs.assign (ao rfl), ?_⟩)) | apply AWl.nil | apply ABlock.normal)
     refine ALoop.next _ ?_ ⟨P', Q', R, ?_, hP1, hQ1, ?_, rfl, rfl⟩ ?_
     ·simp only [List.length_cons]; omega
     ·rw [mrgF_eq hc, if_pos hz] at heq
      exact heq
     ·omega
     ·exact AS.le_of (by repeat (first | exact FrLe.nil | refine FrLe.cons rfl (AVle.d rfl) ?_ | refine FrLe.cons rfl (AVle.own rfl) ?_)) (by repeat (first | exact HpLe.nil | refine HpLe.cons (OwLe.row rfl) ?_))
    ·have hsg : (s.c + f t.c).num.sign ≠ 0 := by simpa using hz
     repeat (first | apply AWp.seq | apply AWp.region | (apply Ga.store; refine AWs.stF (ao rfl) (ao rfl) rfl (tab_of rfl) rfl rfl rfl ?_) | (refine AWs.q rfl rfl ?_; first | (apply Gt.load; refine ⟨_, Qs.ldD (ao rfl) rfl (tab_of rfl) rfl rfl, ?_⟩) | (apply Gt.bin; refine ⟨_, Qs.cmpT rfl (ao rfl) (ao rfl) (by first | (simp only [cmpP, List.length_cons, List.length_nil]; omega) | (simp [cmpP]; done) | (simp [cmpP]; omega)), ?_⟩) | (apply Gt.callv; refine ⟨_, Qs.call (ao rfl) (Sign_abs (s.c + f t.c)) (by repeat (first | exact ArgsLe.nil | refine ArgsLe.cons rfl (D.le.refl _) ?_ | refine ArgsLe.cons rfl D.le_nil ?_)), ?_⟩)) | apply AWl.nil | apply AThen.normal | (apply Gc.cond; refine AWp.condT (ao rfl) ?_))
     refine AWp.dr' (DrawOk.self (by kernel_rfl)) [[], [], [], [(50, 2)], [(51, 3)], [(52, 4)], [(49, 1), (53, 5)], [(54, 6)]] [[], [], [], [2], [2, 3], [2, 3, 4], [1, 2, 3, 4, 5], [1, 2, 3, 4, 5, 6]] rfl (by kernel_rfl) (by kernel_rfl) (by kernel_rfl) ?_
     repeat (first | refine ⟨_, rfl, ?_⟩ | (apply Gh.move; (refine ⟨_, HStep.q rfl (Qs.move (ah rfl)), ?_⟩; refine ⟨_, rfl, ?_⟩)) | (apply Gh.load; first | (refine ⟨_, HStep.q rfl (Qs.ldD (ah rfl) rfl (tab_of rfl) rfl rfl), ?_⟩; refine ⟨_, rfl, ?_⟩) | (refine ⟨_, HStep.q rfl (Qs.loadEf (ah rfl) (tab_of rfl) rfl rfl), ?_⟩; refine ⟨_, rfl, ?_⟩)) | (apply Gh.fieldAddr; (refine ⟨_, HStep.q rfl (Qs.fldE (ah rfl) (tab_of rfl) rfl (tab_of rfl) rfl rfl), ?_⟩; refine ⟨_, rfl, ?_⟩)) | (apply Gh.indexAddr; (refine ⟨_, HStep.q rfl (Qs.index0 rfl (ah rfl) (tab_of rfl) (tab_of rfl) rfl), ?_⟩; refine ⟨_, rfl, ?_⟩)) | (apply Gh.bslice; (refine ⟨_, HStep.q rfl (Bq.slice1 (ah rfl) (tab_of rfl) (tab_of rfl) rfl rfl rfl rfl rfl), ?_⟩; refine ⟨_, rfl, ?_⟩)) | (apply Gh.build; (refine Hq rfl ?_; refine Bq.build (tab_of rfl) rfl rfl rfl ?_; (repeat ((first | refine ⟨_, PartOk.ag (ah rfl), ?_⟩ | refine ⟨_, PartOk.one rfl (by first | exact One.ex_ rfl | exact One.sl | exact One.ep), ?_⟩); refine ⟨_, rfl, ?_⟩)); refine ⟨_, rfl, ?_⟩; refine ⟨_, rfl, ?_⟩)))
     repeat (first | (apply Ga.app; refine AWs.app (ao rfl) rfl rfl (tab_of rfl) (tab_of rfl) rfl rfl (by simp; omega) (by simp; omega) rfl (by repeat (first | exact PlainHp.nil | refine PlainHp.var ?_ | refine PlainHp.row ?_ | refine PlainHp.dead ?_)) rfl ?_) | (refine AWs.q rfl rfl ?_; (apply Gt.assign; refine ⟨_, Qs.assign (ao rfl), ?_⟩)) | apply AWl.nil | apply AThen.normal)
     refine AWp.dr' (DrawOk.self (by kernel_rfl)) [[], [(57, 0)], [], [(59, 2)], [(58, 1)]] [[], [0], [], [2], [0, 1]] rfl (by kernel_rfl) (by kernel_rfl) (by kernel_rfl) ?_
     repeat (first | refine ⟨_, rfl, ?_⟩ | (apply Gh.move; (refine ⟨_, HStep.q rfl (Qs.move (ah rfl)), ?_⟩; refine ⟨_, rfl, ?_⟩)) | (apply Gh.assign; (refine ⟨_, HStep.q rfl (Qs.assign (ah rfl)), ?_⟩; refine ⟨_, rfl, ?_⟩)) | (apply Gh.slice; (refine ⟨_, HStep.q rfl (Qs.tailN rfl (ah rfl) (tab_of rfl) (tab_of rfl) rfl), ?_⟩; refine ⟨_, rfl, ?_⟩)))
     repeat (first | (refine AWs.q rfl rfl ?_; (apply Gt.assign; refine ⟨_, Qs.assign (ao rfl), ?_⟩)) | apply AWl.nil | apply ABlock.normal)
     refine ALoop.next _ ?_ ⟨P', Q', R ++ [⟨s.c + f t.c, s.m⟩], ?_, hP1, hQ1, ?_, rfl, rfl⟩ ?_
     ·simp only [List.length_cons]; omega
     ·rw [mrgF_eq hc, if_neg hz] at heq
      rw [← heq]; simp
     ·simp only [List.length_append, List.length_cons, List.length_nil]; omega
     ·exact AS.le_of (by repeat (first | exact FrLe.nil | refine FrLe.cons rfl (AVle.d rfl) ?_ | refine FrLe.cons rfl (AVle.own rfl) ?_)) (by repeat (first | exact HpLe.nil | refine HpLe.cons (OwLe.row (map_snoc tmC R ⟨s.c + f t.c, s.m⟩)) ?_))
   ·have hc' : lex8 s.m t.m = 1 := by rw [← lx_lex]; exact hc
    simp only [hc']
    repeat (first | apply AWp.seq | apply AWp.region | (apply Ga.app; refine AWs.app (ao rfl) rfl rfl (tab_of rfl) (tab_of rfl) rfl rfl (by simp; omega) (by simp; omega) rfl (by repeat (first | exact PlainHp.nil | refine PlainHp.var ?_ | refine PlainHp.row ?_ | refine PlainHp.dead ?_)) rfl ?_) | (refine AWs.q rfl rfl ?_; first | (apply Gt.move; refine ⟨_, Qs.move (ao rfl), ?_⟩) | (apply Gt.assign; refine ⟨_, Qs.assign (ao rfl), ?_⟩) | (apply Gt.load; refine ⟨_, Qs.loadEf (ao rfl) (tab_of rfl) rfl rfl, ?_⟩) | (apply Gt.indexAddr; refine ⟨_, Qs.index0 rfl (ao rfl) (tab_of rfl) (tab_of rfl) rfl, ?_⟩) | (apply Gt.slice; refine ⟨_, Qs.tailN rfl (ao rfl) (tab_of rfl) (tab_of rfl) rfl, ?_⟩) | (apply Gt.bin; refine ⟨_, Qs.cmpT rfl (ao rfl) (ao rfl) (by first | (simp only [cmpP, List.length_cons, List.length_nil]; omega) | (simp [cmpP]; done) | (simp [cmpP]; omega)), ?_⟩) | (apply Gt.bslice; refine ⟨_, Bq.slice1 (ao rfl) (tab_of rfl) (tab_of rfl) rfl rfl rfl rfl rfl, ?_⟩)) | apply AWl.nil | apply AThen.normal | apply AWp.block | apply ABlock.normal | (apply Gc.cond; refine AWp.condT (ao rfl) ?_))
    refine ALoop.next _ ?_ ⟨P', t :: Q', R ++ [s], ?_, hP1, hQ', ?_, rfl, rfl⟩ ?_
    ·simp only [List.length_cons]; omega
    ·rw [mrgF_gt hc] at heq
     rw [← heq]; simp
    ·simp only [List.length_cons, List.length_append, List.length_nil]; omega
    ·exact AS.le_of (by repeat (first | exact FrLe.nil | refine FrLe.cons rfl (AVle.d rfl) ?_ | refine FrLe.cons rfl (AVle.own rfl) ?_)) (by repeat (first | exact HpLe.nil | refine HpLe.cons (OwLe.row (map_snoc tmC R s)) ?_))
  all_goals
   have hmn : mrgF f P' Q' = P' ++ Q'.map (fT f) := mrgF_nil (by first | exact .inl (List.eq_nil_of_length_eq_zero (by omega)) | exact .inr (List.eq_nil_of_length_eq_zero (by omega)))
   repeat (first | apply AWp.seq | apply AWp.region | (apply Ga.app; refine AWs.app (ao rfl) rfl rfl (tab_of rfl) (tab_of rfl) rfl rfl (by simp; omega) (by simp; omega) rfl (by repeat (first | exact PlainHp.nil | refine PlainHp.var ?_ | refine PlainHp.row ?_ | refine PlainHp.dead ?_)) rfl ?_) | (refine AWs.q rfl rfl ?_; first | (apply Gt.move; refine ⟨_, Qs.move (ao rfl), ?_⟩) | (apply Gt.assign; refine ⟨_, Qs.assign (ao rfl), ?_⟩) | (apply Gt.len; refine ⟨_, Qs.lenN rfl (tab_of rfl), ?_⟩) | (apply Gt.bin; first | refine ⟨_, Qs.cmpT rfl (ao rfl) (ao rfl) (by first | (simp only [cmpP, List.length_cons, List.length_nil]; omega) | (simp [cmpP]; done) | (simp [cmpP]; omega)), ?_⟩ | refine ⟨_, Qs.cmpF rfl (ao rfl) (ao rfl) (by first | (simp only [cmpP, List.length_cons, List.length_nil]; omega) | (simp [cmpP]; done) | (simp [cmpP]; omega)), ?_⟩) | (apply Gt.pick; first | refine ⟨_, Qs.pickT (ao rfl) (ao rfl), ?_⟩ | refine ⟨_, Qs.pickF (ao rfl) (ao rfl), ?_⟩)) | refine AWs.sG rfl rfl rfl rfl rfl ?_ | (refine AWs.qG rfl rfl rfl rfl rfl ?_; first | (apply Gt.move; refine ⟨_, Qs.move (ao rfl), ?_⟩) | (apply Gt.len; refine ⟨_, Qs.lenN rfl (tab_of rfl), ?_⟩) | (apply Gt.bin; refine ⟨_, Qs.cmpF rfl (ao rfl) (ao rfl) (by first | (simp only [cmpP, List.length_cons, List.length_nil]; omega) | (simp [cmpP]; done) | (simp [cmpP]; omega)), ?_⟩)) | apply AWl.nil | apply AThen.normal | apply AWp.block | apply AWp.exit | apply AThen.exit | apply ABlock.hit | apply ALoop.exit | (apply Gc.cond; refine AWp.condF (ao rfl) ?_))
   refine AWp.loop (fun m σ => ∃ k, k ≤ Q'.length ∧ m = Q'.length - k ∧ σ = ⟨[(2, .d (ex (.func (.func fid) #[] #[]))), (7, .own 0), (92, .d (polD Q')), (93, .d (ex (.int .i64 (Q'.length : Nat)))), (94, .d (ex (.int .i64 (k : Nat))))], [.row 33 12 ((R ++ P' ++ (Q'.take k).map (fT f)).map tmC)]⟩) ?le ⟨0, by omega, rfl, rfl⟩ ?round
   case le => exact AS.le_of (by repeat (first | exact FrLe.nil | refine FrLe.cons rfl (AVle.d rfl) ?_ | refine FrLe.cons rfl (AVle.own rfl) ?_)) (HpLe.cons (OwLe.row (by simp)) HpLe.nil)
   case round =>
    rintro m _ ⟨k, hk, rfl, rfl⟩
    by_cases hlt : k < Q'.length
    ·have ht := hQ' _ (tAt_mem hlt)
     have htk := take_tAt hlt
     repeat (first | apply AWp.seq | apply AWp.region | (apply Ga.alloc; refine AWs.al (tab_of rfl) rfl rfl rfl rfl rfl rfl ?_) | (apply Ga.store; refine AWs.stF (ao rfl) (ao rfl) rfl (tab_of rfl) rfl rfl rfl ?_) | (refine AWs.q rfl rfl ?_; first | (apply Gt.load; refine ⟨_, Qs.loadEf (ao rfl) (tab_of rfl) rfl rfl, ?_⟩) | (apply Gt.indexAddr; refine ⟨_, Qs.indexN rfl (ao rfl) (tab_of rfl) (tab_of rfl) rfl (by first | omega | (simp; omega)), ?_⟩) | (apply Gt.bin; refine ⟨_, Qs.cmpT rfl (ao rfl) (ao rfl) (by first | (simp only [cmpP, List.length_cons, List.length_nil]; omega) | (simp [cmpP]; done) | (simp [cmpP]; omega)), ?_⟩)) | apply AWl.nil | apply AThen.normal | apply AWp.block | apply AWp.skip | (apply Gc.cond; refine AWp.condT (ao rfl) ?_))
     refine AWp.dr' (DrawOk.self (by kernel_rfl)) [[], [], [], [(100, 2)], [(99, 1), (101, 3)], [], [(103, 5)], [(102, 4), (104, 6)], [(105, 7)]] [[], [], [], [2], [1, 2, 3], [], [5], [1, 2, 3, 4, 5, 6], [1, 2, 3, 4, 5, 6, 7]] rfl (by kernel_rfl) (by kernel_rfl) (by kernel_rfl) ?_
     repeat (first | refine ⟨_, rfl, ?_⟩ | (apply Gh.move; (refine ⟨_, HStep.q rfl (Qs.move (ah rfl)), ?_⟩; refine ⟨_, rfl, ?_⟩)) | (apply Gh.load; (refine ⟨_, HStep.q rfl (Qs.ldD (ah rfl) rfl (tab_of rfl) rfl rfl), ?_⟩; refine ⟨_, rfl, ?_⟩)) | (apply Gh.fieldAddr; (refine ⟨_, HStep.q rfl (Qs.fldP (ah rfl) (tab_of rfl) rfl (tab_of rfl) rfl), ?_⟩; refine ⟨_, rfl, ?_⟩)) | (apply Gh.bslice; (refine ⟨_, HStep.q rfl (Bq.slice1 (ah rfl) (tab_of rfl) (tab_of rfl) rfl rfl rfl rfl rfl), ?_⟩; refine ⟨_, rfl, ?_⟩)) | (apply Gh.build; (refine Hq rfl ?_; refine Bq.build (tab_of rfl) rfl rfl rfl ?_; (repeat ((first | refine ⟨_, PartOk.ag (ah rfl), ?_⟩ | refine ⟨_, PartOk.one rfl (by first | exact One.ex_ rfl | exact One.sl | exact One.ep), ?_⟩); refine ⟨_, rfl, ?_⟩)); refine ⟨_, rfl, ?_⟩; refine ⟨_, rfl, ?_⟩)) | (apply Gh.callv; (refine ⟨_, HStep.q rfl (Qs.call (ah rfl) (hf (tAt Q' k).c ht) (by repeat (first | exact ArgsLe.nil | refine ArgsLe.cons rfl (D.le.refl _) ?_ | refine ArgsLe.cons rfl D.le_nil ?_))), ?_⟩; refine ⟨_, rfl, ?_⟩)))
     repeat (first | apply AWp.region | (apply Ga.app; refine AWs.app (ao rfl) rfl rfl (tab_of rfl) (tab_of rfl) rfl rfl (by simp; omega) (by simp; omega) rfl (by repeat (first | exact PlainHp.nil | refine PlainHp.var ?_ | refine PlainHp.row ?_ | refine PlainHp.dead ?_)) rfl ?_) | (refine AWs.q rfl rfl ?_; first | (apply Gt.move; refine ⟨_, Qs.move (ao rfl), ?_⟩) | (apply Gt.assign; refine ⟨_, Qs.assign (ao rfl), ?_⟩) | (apply Gt.add; refine ⟨_, Qs.succ (ao rfl) (ao rfl) (by omega), ?_⟩)) | apply AWl.nil | apply AThen.normal | apply ABlock.normal)
     refine ALoop.next (Q'.length - (k + 1)) (by omega) ⟨k + 1, by omega, rfl, rfl⟩ ?_
     exact AS.le_of (by repeat (first | exact FrLe.nil | refine FrLe.cons rfl (AVle.d rfl) ?_ | refine FrLe.cons rfl (AVle.own rfl) ?_)) (by repeat (first | exact HpLe.nil | refine HpLe.cons (OwLe.row ((map_snoc tmC _ (fT f (tAt Q' k))).trans (by rw [← htk]; simp))) ?_))
    ·obtain rfl : k = Q'.length := by omega
     repeat (first | apply AWp.seq | apply AWp.region | (refine AWs.q rfl rfl ?_; first | (apply Gt.move; refine ⟨_, Qs.move (ao rfl), ?_⟩) | (apply Gt.assign; refine ⟨_, Qs.assign (ao rfl), ?_⟩) | (apply Gt.bin; refine ⟨_, Qs.cmpF rfl (ao rfl) (ao rfl) (by first | (simp only [cmpP, List.length_cons, List.length_nil]; omega) | (simp [cmpP]; done) | (simp [cmpP]; omega)), ?_⟩)) | apply AWl.nil | apply AThen.normal | apply AWp.exit | apply AWp.ret | apply AThen.exit | apply ABlock.hit | apply ALoop.exit | (apply Gc.cond; refine AWp.condF (ao rfl) ?_))
     refine Fin.ret (Rets.one rfl rfl (D.le.of_eq ?_))
     rw [List.take_length, List.append_assoc, ← hmn, heq]
     rfl
end Go.Proofs.YteicdddphdomkaaGreat
namespace Go.Proofs.YteicdddphdomkaaGreat
open Go.RowKit
def tms (c : Rat) (m : Nat → Int) (P : List Tm) : List Tm := P.map fun t => ⟨c * t.c, add8 m t.m⟩
@[simp] theorem tms_length (c : Rat) (m : Nat → Int) (P : List Tm) : (tms c m P).length = P.length := List.length_map ..
def upT (R : List (Nat → Int)) (b t : Tm) : Tm := if 0 < oCmp R t.m b.m then t else b
def leadF (R : List (Nat → Int)) (b : Tm) (P : List Tm) : Tm := P.foldl (upT R) b
theorem foldl_tAt {α : Type} (f : α → Tm → α) (b : α) {P : List Tm} {k : Nat} (h : k < P.length) : (P.take (k + 1)).foldl f b = f ((P.take k).foldl f b) (tAt P k) := by
 rw [← take_tAt h, List.foldl_append]
 rfl
def setM (a : Nat → Int) (k : Nat) (z : Int) : Nat → Int := fun j => if j = k then z else a j
theorem In8.zero : In8 (fun _ => 0) 0 65535 := fun i _ => ⟨Int.le_refl _, by show (0 : Int) ≤ 65535; omega⟩
theorem zero_add8 (a : Nat → Int) : add8 (fun _ => 0) a = a := by funext i; simp [add8]
theorem add8_zero (a : Nat → Int) : add8 a (fun _ => 0) = a := by funext i; simp [add8]
theorem num_sign0 {c : Rat} : c.num.sign = 0 ↔ c = 0 := by rw [Int.sign_eq_zero_iff_zero]; exact Rat.num_eq_zero
theorem rnum_ne {q : Rat} (h : q ≠ 0) : q.num ≠ 0 := fun e => h (Rat.num_eq_zero.1 e)
end Go.Proofs.YteicdddphdomkaaGreat
namespace Go.Proofs.YteicdddphdomkaaGreat
open Go.RowKit
structure CellAt (ds : List D) (off : Nat) (u : D) : Prop where
 lt : off < ds.length
 eq : dAt ds off = u
structure SetAt (ds : List D) (off : Nat) (es ds' : List D) : Prop where
 le : off + es.length ≤ ds.length
 eq : spl ds off es = ds'
theorem CellAt.mon {a : Nat → Int} {k : Nat} (h : k < 8) : CellAt (monC a) k (ex (.int .i64 (a k))) := ⟨h, monC_at h⟩
theorem CellAt.mon0 {a : Nat → Int} {k : Nat} (h : k < 8) : CellAt (monC a) (0 + k * 1) (ex (.int .i64 (a k))) := by rw [Nat.zero_add, Nat.mul_one]; exact .mon h
theorem monC_setM {a : Nat → Int} {k : Nat} {z : Int} (h : k < 8) : spl (monC a) k [ex (.int .i64 z)] = monC (setM a k z) := by
 match k, h with
 | 0, _ => rfl
 | 1, _ => rfl
 | 2, _ => rfl
 | 3, _ => rfl
 | 4, _ => rfl
 | 5, _ => rfl
 | 6, _ => rfl
 | 7, _ => rfl
theorem SetAt.mon {a : Nat → Int} {k : Nat} {z : Int} (h : k < 8) : SetAt (monC a) (0 + k * 1) [ex (.int .i64 z)] (monC (setM a k z)) := by
 rw [Nat.zero_add, Nat.mul_one]
 exact ⟨h, monC_setM h⟩
section
variable {P : Program} {hp : List Ow} {arg : Operand → AV} {dd : Option Tmp} {ty : TypeId} {ps : String} {af : Array Edge} {gd : Option (Nat × Bool)}
theorem Qs.ixP {x y : Operand} {t : TypeId} {e n b n' b' len id off k : Nat} {d : TypeDesc} {z z' : Value} {κ : IntKind} (hx : arg x = .ptr id off) (hy : arg y = .d (ex (.int κ ((k : Nat) : Int)))) (ht : Tab P t (.array len e) n b z) (he : Tab P e d n' b' z') (hk : k < len) : Quiet P hp ⟨dd, .indexAddr t x y, ty, ps, af, gd⟩ arg (.ptr id (off + k * n')) :=
 Quiet.indexP (o := ⟨dd, .indexAddr t x y, ty, ps, af, gd⟩) rfl hx hy ht he (by omega) (by omega)
theorem Qs.ixE {x y : Operand} {t : TypeId} {e n b n' b' len T k : Nat} {d : TypeDesc} {z z' : Value} {ds : List D} {κ : IntKind} (hx : arg x = .d (epD T ds)) (hy : arg y = .d (ex (.int κ ((k : Nat) : Int)))) (ht : Tab P t (.array len e) n b z) (he : Tab P e d n' b' z') (hk : k < len) : Quiet P hp ⟨dd, .indexAddr t x y, ty, ps, af, gd⟩ arg (.d (epD T (ds.drop (k * n')))) :=
 Quiet.indexE (o := ⟨dd, .indexAddr t x y, ty, ps, af, gd⟩) rfl hx hy ht he (by omega) (by omega)
theorem Qs.pred {T U : TypeId} {x y : Operand} {a : Nat} (hx : arg x = .d (ex (.int .i64 ((a : Nat) : Int)))) (hy : arg y = .d (ex (.int .i64 1))) (h0 : 0 < a) (h1 : (a : Int) < 9223372036854775807) : Quiet P hp ⟨dd, .binOp .sub T x y U, ty, ps, af, gd⟩ arg (.d (ex (.int .i64 ((a - 1 : Nat) : Int)))) := by
 have := Quiet.sub (P := P) (hp := hp) (o := ⟨dd, .binOp .sub T x y U, ty, ps, af, gd⟩) rfl hx hy (by omega) (by omega)
 rwa [show (a : Int) - 1 = ((a - 1 : Nat) : Int) by omega] at this
theorem Qs.ldX1 {x : Operand} {t : TypeId} {d : TypeDesc} {n b T id off : Nat} {z : Value} {ds : List D} {u : D} (hx : arg x = .ptr id off) (hh : hp[id]? = some (.var T (ds.map .d))) (ht : Tab P t d n b z) (hd : isAg d = false) (hc : CellAt ds off u) : Quiet P hp ⟨dd, .load t x, ty, ps, af, gd⟩ arg (.d u) := by
 have := Quiet.loadD1 (P := P) (o := ⟨dd, .load t x, ty, ps, af, gd⟩) rfl hx hh ht hd hc.lt
 rwa [hc.eq] at this
theorem Qs.ldEX1 {x : Operand} {t : TypeId} {d : TypeDesc} {n b T : Nat} {z : Value} {ds : List D} {u : D} (hx : arg x = .d (epD T ds)) (ht : Tab P t d n b z) (hd : isAg d = false) (hc : CellAt ds 0 u) : Quiet P hp ⟨dd, .load t x, ty, ps, af, gd⟩ arg (.d u) := by
 have := Quiet.loadE1 (P := P) (hp := hp) (o := ⟨dd, .load t x, ty, ps, af, gd⟩) rfl hx ht hd hc.lt
 rwa [hc.eq] at this
theorem eqMon_run (a b : Nat → Int) {x y : Operand} (w : World) : (do eqGuard .eql 31 x y (.agg (c8 a)) (.agg (c8 b)); binOp .eql 31 (.agg (c8 a)) (.agg (c8 b)) : Sem Value).run Tryz.prog w = .ok (.bool (eqB a b)) w := by
 have heq : (Op.equalIn Op.maxDepth 31 (.agg (c8 a)) (.agg (c8 b))).run Tryz.prog w = .ok (eqB a b) w := run_eq_mono a b w
 simp [eqGuard, binOp, Op.equal, heq]
theorem Quiet.binO {op : BinOp} {T U : TypeId} {x y : Operand} {dx dy : D} {a b v : Value} {o : Oper} (hop : o.op = .binOp op T x y U) (hx : arg x = .d dx) (hy : arg y = .d dy) (ha : ∀ s u, dx.rel s u → u = a) (hb : ∀ s u, dy.rel s u → u = b) (hr : ∀ w, (do eqGuard op T x y a b; binOp op T a b : Sem Value).run P w = .ok v w) : Quiet P hp o arg (.d (ex v)) := by
 refine ⟨fun base s ρ ev hok hbs hhp h => ?_⟩
 have h1 := h x (by rw [hop]; simp [Op.operands])
 have h2 := h y (by rw [hop]; simp [Op.operands])
 rw [hx] at h1; rw [hy] at h2
 have e1 := ha s _ h1
 have e2 := hb s _ h2
 have := hr s.w
 refine opG_val (v := v) ?_ ⟨GS.Le.refl s, rfl⟩
 simp only [execOp, hop, e1, e2, Sem.run_bind, this, Result.andThen_ok, Sem.run_pure]
theorem Qs.eqMon {x y : Operand} {U : TypeId} {a b : Nat → Int} (hx : arg x = .d (agD (monC a))) (hy : arg y = .d (agD (monC b))) : Quiet Tryz.prog hp ⟨dd, .binOp .eql 31 x y U, ty, ps, af, gd⟩ arg (.d (ex (.bool (eqB a b)))) :=
 Quiet.binO rfl hx hy (fun _ _ h => monC_open h) (fun _ _ h => monC_open h) fun w => eqMon_run a b w
theorem Qs.eqMonT {x y : Operand} {U : TypeId} {a b : Nat → Int} (hx : arg x = .d (agD (monC a))) (hy : arg y = .d (agD (monC b))) (h : eqB a b = true) : Quiet Tryz.prog hp ⟨dd, .binOp .eql 31 x y U, ty, ps, af, gd⟩ arg (.d (ex (.bool true))) := by
 rw [← h]; exact Qs.eqMon hx hy
theorem Qs.neBool {x y : Operand} {T U : TypeId} {a b : Bool} (hx : arg x = .d (ex (.bool a))) (hy : arg y = .d (ex (.bool b))) (hT : P.underlying T = some .bool) : Quiet P hp ⟨dd, .binOp .neq T x y U, ty, ps, af, gd⟩ arg (.d (ex (.bool (!(a == b))))) :=
 Quiet.bin (o := ⟨dd, .binOp .neq T x y U, ty, ps, af, gd⟩) rfl hx hy fun w => by
  have heq : (Op.equalIn Op.maxDepth T (.bool a) (.bool b)).run P w = .ok (a == b) w := run_equalIn_bool w 9999 T a b hT
  simp [eqGuard, binOp, Op.equal, heq]
end
section
variable {P : Program} {s0 : GS} {n : Nat} {ops : Array Oper} {Q : Exit → AS → Prop} {rest : List Oper} {fr : List (Nat × AV)} {hp : List Ow} {ty : TypeId} {ps : String} {af : Array Edge}
theorem AWs.stX1 {T T0 : TypeId} {d : TypeDesc} {b id off : Nat} {z : Value} {x y : Operand} {cs cs' : List D} {u : D} {hp' : List Ow} (hx : AS.arg ⟨fr, hp⟩ x = .ptr id off) (hy : AS.arg ⟨fr, hp⟩ y = .d u) (hh : hp[id]? = some (.var T0 (cs.map .d))) (ht : Tab P T d 1 b z) (h1 : One hp (.d u)) (hc : SetAt cs off [u] cs') (hs : setO hp id (.var T0 (cs'.map .d)) = some hp')
  (h : AWl P s0 n ops Q rest ⟨fr, hp'⟩) : AWl P s0 n ops Q (⟨none, .store T x y, ty, ps, af, none⟩ :: rest) ⟨fr, hp⟩ := by
 have hlt : off < cs.length := hc.le
 refine AWl.storeD1 (o := ⟨none, .store T x y, ty, ps, af, none⟩) rfl rfl rfl hx hy hh ht h1 hlt ?_
 have e1 := hc.eq
 have : spl cs off [u] = cs.set off u := by
  unfold spl
  rw [List.set_eq_take_append_cons_drop, if_pos hlt]
  rfl
 rw [this] at e1
 rw [setO_eq hs, ← e1] at h
 exact h
end
theorem setO_same : ∀ {hp hp' : List Ow} {i : Nat} {x : Ow}, hp[i]? = some x → setO hp i x = some hp' → hp' = hp
 | [], _, _, _, h, _ => by cases h
 | o :: l, hp', 0, x, h, h' => by cases h; cases h'; rfl
 | o :: l, hp', i + 1, x, h, h' => by
  unfold setO at h'
  split at h'
  ·rename_i r hr
   cases h'
   rw [setO_same (by simpa using h) hr]
  ·cases h'
theorem AWl.fold {P : Program} {s0 : GS} {n : Nat} {ops : Array Oper} {Q : Exit → AS → Prop} {l : List Oper} {fr : List (Nat × AV)} {hp hp' : List Ow} {T : TypeId} {cs : List D} (id : Nat) (cs' : List D) (hh : hp[id]? = some (.var T (cs.map .d))) (he : cs = cs') (hs : setO hp id (.var T (cs'.map .d)) = some hp') (h : AWl P s0 n ops Q l ⟨fr, hp'⟩) : AWl P s0 n ops Q l ⟨fr, hp⟩ := by
 subst he
 rw [setO_same hh hs] at h
 exact h
theorem D.le.trans {x y z : D} (h : D.le x y) (h' : D.le y z) : D.le x z := fun s v hv => h' s v (h s v hv)
theorem D.le.tup2 {x y x' y' : D} (h : D.le x x') (h' : D.le y y') : D.le (tupD [x, y]) (tupD [x', y']) := fun s v hv => by
 obtain ⟨vs, e, hl, hk⟩ := hv
 refine ⟨vs, e, hl, fun k hk' => ?_⟩
 obtain ⟨u, h1, h2⟩ := hk k hk'
 match k, hk' with
 | 0, _ => exact ⟨u, h1, h s u h2⟩
 | 1, _ => exact ⟨u, h1, h' s u h2⟩
 | k + 2, hk' => exact absurd hk' (by simp)
theorem D.le_pol {P Q : List Tm} (h : P = Q) : D.le (polD P) (polD Q) := D.le.of_eq (by rw [h])
theorem D.le_nilP : D.le (ex (.slice none 0 0)) (polD []) := D.le_nil
end Go.Proofs.YteicdddphdomkaaGreat
namespace Go.Proofs.YteicdddphdomkaaGreat
open Go.RowKit
set_option maxRecDepth 100000
theorem Add1_abs (q : Rat) : Abs Tryz.prog 80 [agD (ratC q)] (agD (ratC q)) := by
 refine Abs.intro Tryz.func80 rfl (callFunc_run Tryz.func80 (by kernel_rfl) (by kernel_rfl)) rfl fun s0 => ?_
 rw [Tryz.ntmps80]
 repeat (first | apply AWp.seq | apply AWp.region | (apply Ga.alloc; refine AWs.al (tab_of rfl) rfl rfl rfl rfl rfl rfl ?_) | (apply Ga.store; refine AWs.stF (ao rfl) (ao rfl) rfl (tab_of rfl) rfl rfl rfl ?_) | (apply Ga.box; refine AWs.bx (ao rfl) rfl rfl rfl rfl ?_) | (refine AWs.q rfl rfl ?_; (apply Gt.load; refine ⟨_, Qs.ldD (ao rfl) rfl (tab_of rfl) rfl rfl, ?_⟩)) | apply AWl.nil | apply AThen.normal | apply AWp.ret)
 exact Fin.ret (Rets.of1 (ResV.cell rfl rfl (tab_of rfl) rfl rfl rfl) (D.le.refl _))
theorem PAdd_abs (P Q : List Tm) (N M : Nat) (hP : PSz P N) (hQ : PSz Q M) (hNM : N + M + 1 ≤ 4398046511104) (hn : P.length + Q.length ≤ 100000) : Abs Tryz.prog 20 [polD P, polD Q] (polD (mrg P Q)) := by
 have he : mrgF (fun q => q) P Q = mrg P Q := by
  unfold mrgF
  have : Q.map (fT fun q => q) = Q := List.map_id Q
  rw [this]
 refine Abs.intro Tryz.func20 rfl (callFunc_run Tryz.func20 (by kernel_rfl) (by kernel_rfl)) rfl fun s0 => ?_
 rw [Tryz.ntmps20]
 repeat (first | apply AWp.seq | apply AWp.region | (refine AWs.q rfl rfl ?_; first | (apply Gt.move; refine ⟨_, Qs.move (ao rfl), ?_⟩) | (apply Gt.assign; refine ⟨_, Qs.assign (ao rfl), ?_⟩) | (apply Gt.callv; refine ⟨_, Qs.call (ao rfl) (merge_abs P Q 80 (fun q => q) N M hP hQ hNM (fun _ h => h) hn (fun q _ => Add1_abs q)) (by first | ((repeat (first | exact ArgsLe.nil | refine ArgsLe.cons rfl (D.le.refl _) ?_ | refine ArgsLe.cons rfl D.le_nil ?_)); done) | fail), ?_⟩)) | apply AWl.nil | apply AThen.normal | apply AWp.ret)
 exact Fin.ret (Rets.of1 (ResV.tmp rfl rfl) (D.le_pol he))
theorem PSub_abs (P Q : List Tm) (N M : Nat) (hP : PSz P N) (hQ : PSz Q M) (hNM : N + M + 1 ≤ 4398046511104) (hn : P.length + Q.length ≤ 100000) : Abs Tryz.prog 21 [polD P, polD Q] (polD (mrgF (fun q => -q) P Q)) := by
 refine Abs.intro Tryz.func21 rfl (callFunc_run Tryz.func21 (by kernel_rfl) (by kernel_rfl)) rfl fun s0 => ?_
 rw [Tryz.ntmps21]
 repeat (first | apply AWp.seq | apply AWp.region | (refine AWs.q rfl rfl ?_; first | (apply Gt.move; refine ⟨_, Qs.move (ao rfl), ?_⟩) | (apply Gt.assign; refine ⟨_, Qs.assign (ao rfl), ?_⟩) | (apply Gt.callv; refine ⟨_, Qs.call (ao rfl) (merge_abs P Q 81 (fun q => -q) N M hP hQ hNM (fun q h => h.neg) hn (fun q h => Neg_abs q M h (by omega))) (by first | ((repeat (first | exact ArgsLe.nil | refine ArgsLe.cons rfl (D.le.refl _) ?_ | refine ArgsLe.cons rfl D.le_nil ?_)); done) | fail), ?_⟩)) | apply AWl.nil | apply AThen.normal | apply AWp.ret)
 exact Fin.ret (Rets.of1 (ResV.tmp rfl rfl) (D.le.refl _))
def constL (c : Rat) : List Tm := if c = 0 then [] else [⟨c, fun _ => 0⟩]
theorem PConst_abs (c : Rat) : Abs Tryz.prog 22 [agD (ratC c)] (polD (constL c)) := by
 refine Abs.intro Tryz.func22 rfl (callFunc_run Tryz.func22 (by kernel_rfl) (by kernel_rfl)) rfl fun s0 => ?_
 rw [Tryz.ntmps22]
 by_cases hz : c = 0
 ·have hs := num_sign0.2 hz
  repeat (first | apply AWp.seq | apply AWp.region | (apply Ga.box; refine AWs.bx (ao rfl) rfl rfl rfl rfl ?_) | (refine AWs.q rfl rfl ?_; first | (apply Gt.assign; refine ⟨_, Qs.assign (ao rfl), ?_⟩) | (apply Gt.load; refine ⟨_, Qs.ldD (ao rfl) rfl (tab_of rfl) rfl rfl, ?_⟩) | (apply Gt.bin; refine ⟨_, Qs.cmpT rfl (ao rfl) (ao rfl) (by first | (simp only [cmpP, List.length_cons, List.length_nil]; omega) | (simp [cmpP]; done) | (simp [cmpP]; omega)), ?_⟩) | (apply Gt.callv; refine ⟨_, Qs.call (ao rfl) (Sign_abs c) (by first | ((repeat (first | exact ArgsLe.nil | refine ArgsLe.cons rfl (D.le.refl _) ?_ | refine ArgsLe.cons rfl D.le_nil ?_)); done) | fail), ?_⟩)) | apply AWl.nil | apply AThen.normal | apply AWp.ret | apply AThen.ret | (apply Gc.cond; refine AWp.condT (ao rfl) ?_))
  exact Fin.ret (Rets.of1 (ResV.tmp rfl rfl) (D.le.trans D.le_nilP (D.le_pol (by rw [constL, if_pos hz]))))
 ·have hs : c.num.sign ≠ 0 := fun e => hz (num_sign0.1 e)
  repeat (first | apply AWp.seq | apply AWp.region | (apply Ga.box; refine AWs.bx (ao rfl) rfl rfl rfl rfl ?_) | (refine AWs.q rfl rfl ?_; first | (apply Gt.assign; refine ⟨_, Qs.assign (ao rfl), ?_⟩) | (apply Gt.load; refine ⟨_, Qs.ldD (ao rfl) rfl (tab_of rfl) rfl rfl, ?_⟩) | (apply Gt.bin; refine ⟨_, Qs.cmpF rfl (ao rfl) (ao rfl) (by first | (simp only [cmpP, List.length_cons, List.length_nil]; omega) | (simp [cmpP]; done) | (simp [cmpP]; omega)), ?_⟩) | (apply Gt.bslice; refine ⟨_, Bq.slice1 (ao rfl) (tab_of rfl) (tab_of rfl) rfl rfl rfl rfl rfl, ?_⟩) | (apply Gt.build; (refine Bq.build (tab_of rfl) rfl rfl rfl ?_; (repeat ((first | refine ⟨_, PartOk.ag (ao rfl), ?_⟩ | refine ⟨_, PartOk.one rfl (by first | exact One.ex_ rfl | exact One.sl | exact One.ep), ?_⟩); refine ⟨_, rfl, ?_⟩)); refine ⟨_, rfl, ?_⟩)) | (apply Gt.callv; refine ⟨_, Qs.call (ao rfl) (Sign_abs c) (by first | ((repeat (first | exact ArgsLe.nil | refine ArgsLe.cons rfl (D.le.refl _) ?_ | refine ArgsLe.cons rfl D.le_nil ?_)); done) | fail), ?_⟩)) | apply AWl.nil | apply AThen.normal | apply AWp.skip | apply AWp.ret | (apply Gc.cond; refine AWp.condF (ao rfl) ?_))
  exact Fin.ret (Rets.of1 (ResV.tmp rfl rfl) (D.le.of_eq (by rw [constL, if_neg hz]; rfl)))
def unitE (i : Nat) : Nat → Int := setM (fun _ => 0) i 1
theorem PVar_abs (i : Nat) (hi : i < 8) : Abs Tryz.prog 25 [ex (.int .i64 (i : Nat))] (tupD [polD [⟨1, unitE i⟩], ex (.int .i64 0)]) := by
 refine Abs.intro Tryz.func25 rfl (callFunc_run Tryz.func25 (by kernel_rfl) (by kernel_rfl)) rfl fun s0 => ?_
 rw [Tryz.ntmps25]
 repeat (first | apply AWp.seq | apply AWp.region | (apply Ga.alloc; refine AWs.al (tab_of rfl) rfl rfl rfl rfl rfl rfl ?_) | (refine AWs.q rfl rfl ?_; first | (apply Gt.move; refine ⟨_, Qs.move (ao rfl), ?_⟩) | (apply Gt.assign; refine ⟨_, Qs.assign (ao rfl), ?_⟩) | (apply Gt.indexAddr; refine ⟨_, Qs.ixP (ao rfl) (ao rfl) (tab_of rfl) (tab_of rfl) (by first | omega | (simp; omega)), ?_⟩) | (apply Gt.bin; refine ⟨_, Qs.cmpF rfl (ao rfl) (ao rfl) (by first | (simp only [cmpP, List.length_cons, List.length_nil]; omega) | (simp [cmpP]; done) | (simp [cmpP]; omega)), ?_⟩) | (apply Gt.pick; refine ⟨_, Qs.pickF (ao rfl) (ao rfl), ?_⟩)) | (refine AWs.qG rfl rfl rfl rfl rfl ?_; first | (apply Gt.move; refine ⟨_, Qs.move (ao rfl), ?_⟩) | (apply Gt.bin; refine ⟨_, Qs.cmpF rfl (ao rfl) (ao rfl) (by first | (simp only [cmpP, List.length_cons, List.length_nil]; omega) | (simp [cmpP]; done) | (simp [cmpP]; omega)), ?_⟩)) | apply AWl.nil | apply AThen.normal | apply AWp.skip | (apply Gc.cond; refine AWp.condF (ao rfl) ?_))
 refine AWl.fold 0 (monC fun _ => 0) rfl rfl rfl ?_
 repeat (first | apply AWp.seq | (apply Ga.store; refine AWs.stX1 (ao rfl) (ao rfl) rfl (tab_of rfl) (by first | exact One.ex_ rfl | exact One.sl | exact One.ep) (SetAt.mon (by first | omega | (simp; omega))) rfl ?_) | apply AWl.nil | apply AThen.normal)
 refine AWp.dr' (DrawOk.self (by kernel_rfl)) [[], [], [(13, 0), (14, 1)], [(15, 2)]] [[], [], [0, 1], [0, 1, 2]] rfl (by kernel_rfl) (by kernel_rfl) (by kernel_rfl) ?_
 repeat (first | refine ⟨_, rfl, ?_⟩ | (apply Gh.load; (refine ⟨_, HStep.q rfl (Qs.ldD (ah rfl) rfl (tab_of rfl) rfl rfl), ?_⟩; refine ⟨_, rfl, ?_⟩)) | (apply Gh.bslice; (refine ⟨_, HStep.q rfl (Bq.slice1 (ah rfl) (tab_of rfl) (tab_of rfl) rfl rfl rfl rfl rfl), ?_⟩; refine ⟨_, rfl, ?_⟩)) | (apply Gh.build; (refine Hq rfl ?_; refine Bq.build (tab_of rfl) rfl rfl rfl ?_; (repeat ((first | refine ⟨_, PartOk.ag (ah rfl), ?_⟩ | refine ⟨_, PartOk.one rfl (by first | exact One.ex_ rfl | exact One.sl | exact One.ep), ?_⟩); refine ⟨_, rfl, ?_⟩)); refine ⟨_, rfl, ?_⟩; refine ⟨_, rfl, ?_⟩)) | (apply Gh.callv; (refine ⟨_, HStep.q rfl (Qs.call (ah rfl) (Whole_abs 1 (by omega) (by omega)) (by first | ((repeat (first | exact ArgsLe.nil | refine ArgsLe.cons rfl (D.le.refl _) ?_ | refine ArgsLe.cons rfl D.le_nil ?_)); done) | fail)), ?_⟩; refine ⟨_, rfl, ?_⟩)))
 repeat (first | (refine AWs.q rfl rfl ?_; (apply Gt.assign; refine ⟨_, Qs.assign (ao rfl), ?_⟩)) | apply AWl.nil | apply AThen.normal | apply AWp.ret)
 exact Fin.ret (Rets.of2 (ResV.tmp rfl rfl) (ResV.tmp rfl rfl) (D.le.tup2 (D.le.refl _) (D.le.refl _)))
end Go.Proofs.YteicdddphdomkaaGreat
namespace Go.Proofs.YteicdddphdomkaaGreat
open Go.RowKit
set_option maxRecDepth 100000
def zeroT : List D := [ex (.bool false), ex (.slice none 0 0), ex (.bool false), ex (.slice none 0 0)] ++ monC fun _ => 0
theorem PLead0_abs (R : List (Nat → Int)) : Abs Tryz.prog 35 [polD [], ordD R] (tupD [agD zeroT, ex (.bool false)]) := by
 refine Abs.intro Tryz.func35 rfl (callFunc_run Tryz.func35 (by kernel_rfl) (by kernel_rfl)) rfl fun s0 => ?_
 rw [Tryz.ntmps35]
 repeat (first | apply AWp.seq | apply AWp.region | (apply Ga.alloc; refine AWs.al (tab_of rfl) rfl rfl rfl rfl rfl rfl ?_) | (apply Ga.store; refine AWs.stF (ao rfl) (ao rfl) rfl (tab_of rfl) rfl rfl rfl ?_) | (refine AWs.q rfl rfl ?_; first | (apply Gt.move; refine ⟨_, Qs.move (ao rfl), ?_⟩) | (apply Gt.assign; refine ⟨_, Qs.assign (ao rfl), ?_⟩) | (apply Gt.len; refine ⟨_, Qs.lenN rfl (tab_of rfl), ?_⟩) | (apply Gt.bin; refine ⟨_, Qs.cmpT rfl (ao rfl) (ao rfl) (by first | (simp only [cmpP, List.length_cons, List.length_nil]; omega) | (simp [cmpP]; done) | (simp [cmpP]; omega)), ?_⟩) | (apply Gt.build; (refine Bq.build (tab_of rfl) rfl rfl rfl ?_; (repeat ((first | refine ⟨_, PartOk.ag (ao rfl), ?_⟩ | refine ⟨_, PartOk.one rfl (by first | exact One.ex_ rfl | exact One.sl | exact One.ep), ?_⟩); refine ⟨_, rfl, ?_⟩)); refine ⟨_, rfl, ?_⟩))) | apply AWl.nil | apply AThen.normal | apply AWp.ret | apply AThen.ret | (apply Gc.cond; refine AWp.condT (ao rfl) ?_))
 exact Fin.ret (Rets.of2 (ResV.cell rfl rfl (tab_of rfl) rfl rfl rfl) (ResV.tmp rfl rfl) (D.le.tup2 (D.le.refl _) (D.le.refl _)))
theorem leadF_take (R : List (Nat → Int)) (s : Tm) {P : List Tm} {k : Nat} (h : k < P.length) : leadF R s (P.take (k + 1)) = upT R (leadF R s (P.take k)) (tAt P k) := foldl_tAt _ _ h
theorem leadF_mem (R : List (Nat → Int)) : ∀ (P : List Tm) (s : Tm), leadF R s P ∈ s :: P
 | [], s => by simp [leadF]
 | t :: P, s => by
  have h := leadF_mem R P (upT R s t)
  have e : leadF R s (t :: P) = leadF R (upT R s t) P := rfl
  rw [e]
  rcases List.mem_cons.1 h with h1 | h1
  ·rw [h1]
   unfold upT
   split <;> simp
  ·simp [h1]
theorem leadF_take_mem (R : List (Nat → Int)) (s : Tm) (P : List Tm) (k : Nat) : leadF R s (P.take k) ∈ s :: P := by
 rcases List.mem_cons.1 (leadF_mem R (P.take k) s) with h | h
 ·rw [h]; simp
 ·exact List.mem_cons_of_mem _ (List.mem_of_mem_take h)
theorem PLead_abs (s : Tm) (P : List Tm) (R : List (Nat → Int)) (hR : ∀ r ∈ R, In8 r (-1000) 1000) (hP : PIn (s :: P) (-1000000) 1000000) (hn : P.length ≤ 1000000) : Abs Tryz.prog 35 [polD (s :: P), ordD R] (tupD [agD (tmC (leadF R s P)), ex (.bool true)]) := by
 refine Abs.intro Tryz.func35 rfl (callFunc_run Tryz.func35 (by kernel_rfl) (by kernel_rfl)) rfl fun s0 => ?_
 rw [Tryz.ntmps35]
 repeat (first | apply AWp.seq | apply AWp.region | (apply Ga.alloc; refine AWs.al (tab_of rfl) rfl rfl rfl rfl rfl rfl ?_) | (apply Ga.store; refine AWs.stF (ao rfl) (ao rfl) rfl (tab_of rfl) rfl rfl rfl ?_) | (refine AWs.q rfl rfl ?_; first | (apply Gt.move; refine ⟨_, Qs.move (ao rfl), ?_⟩) | (apply Gt.assign; refine ⟨_, Qs.assign (ao rfl), ?_⟩) | (apply Gt.load; refine ⟨_, Qs.loadEf (ao rfl) (tab_of rfl) rfl rfl, ?_⟩) | (apply Gt.indexAddr; refine ⟨_, Qs.index0 rfl (ao rfl) (tab_of rfl) (tab_of rfl) rfl, ?_⟩) | (apply Gt.slice; refine ⟨_, Qs.tailN rfl (ao rfl) (tab_of rfl) (tab_of rfl) rfl, ?_⟩) | (apply Gt.len; refine ⟨_, Qs.lenN rfl (tab_of rfl), ?_⟩) | (apply Gt.bin; refine ⟨_, Qs.cmpF rfl (ao rfl) (ao rfl) (by first | (simp only [cmpP, List.length_cons, List.length_nil]; omega) | (simp [cmpP]; done) | (simp [cmpP]; omega)), ?_⟩)) | apply AWl.nil | apply AThen.normal | apply AWp.block | apply AWp.skip | (apply Gc.cond; refine AWp.condF (ao rfl) ?_))
 refine AWp.loop (fun mz σ => ∃ k, k ≤ P.length ∧ mz = P.length - k ∧ σ = ⟨[(1, .d (ordD R)), (4, .ptr 0 0), (6, .ptr 1 0), (17, .d (polD P)), (18, .d (ex (.int .i64 (P.length : Nat)))), (19, .d (ex (.int .i64 (k : Nat))))], [.var 33 (zeroT.map .d), .var 33 ((tmC (leadF R s (P.take k))).map .d)]⟩) ?le ⟨0, by omega, rfl, rfl⟩ ?round
 case le => exact AS.le_of (by repeat (first | exact FrLe.nil | refine FrLe.cons rfl (AVle.d rfl) ?_ | refine FrLe.cons rfl (AVle.ptr rfl) ?_)) (by repeat (first | exact HpLe.nil | refine HpLe.cons (OwLe.varD rfl) ?_))
 case round =>
  rintro mz _ ⟨k, hk, rfl, rfl⟩
  by_cases hlt : k < P.length
  ·have hin := hP _ (List.mem_cons_of_mem _ (tAt_mem hlt))
   have hin' := hP _ (leadF_take_mem R s P k)
   have hst := leadF_take R s hlt
   by_cases hc : 0 < oCmp R (tAt P k).m (leadF R s (P.take k)).m
   ·rw [upT, if_pos hc] at hst
    repeat (first | apply AWp.seq | apply AWp.region | (apply Ga.alloc; refine AWs.al (tab_of rfl) rfl rfl rfl rfl rfl rfl ?_) | (apply Ga.store; refine AWs.stF (ao rfl) (ao rfl) rfl (tab_of rfl) rfl rfl rfl ?_) | (refine AWs.q rfl rfl ?_; first | (apply Gt.move; refine ⟨_, Qs.move (ao rfl), ?_⟩) | (apply Gt.load; first | refine ⟨_, Qs.ldD (ao rfl) rfl (tab_of rfl) rfl rfl, ?_⟩ | refine ⟨_, Qs.loadEf (ao rfl) (tab_of rfl) rfl rfl, ?_⟩) | (apply Gt.fieldAddr; refine ⟨_, Qs.fldP (ao rfl) (tab_of rfl) rfl (tab_of rfl) rfl, ?_⟩) | (apply Gt.indexAddr; refine ⟨_, Qs.indexN rfl (ao rfl) (tab_of rfl) (tab_of rfl) rfl (by first | omega | (simp; omega)), ?_⟩) | (apply Gt.add; refine ⟨_, Qs.succ (ao rfl) (ao rfl) (by omega), ?_⟩) | (apply Gt.bin; refine ⟨_, Qs.cmpT rfl (ao rfl) (ao rfl) (by first | (simp only [cmpP, List.length_cons, List.length_nil]; omega) | (simp [cmpP]; done) | (simp [cmpP]; omega)), ?_⟩) | (apply Gt.callv; refine ⟨_, Qs.call (ao rfl) (oCmp_abs R (tAt P k).m (leadF R s (P.take k)).m hR hin hin') (by repeat (first | exact ArgsLe.nil | refine ArgsLe.cons rfl (D.le.refl _) ?_ | refine ArgsLe.cons rfl D.le_nil ?_)), ?_⟩)) | apply AWl.nil | apply AThen.normal | apply AWp.block | apply AWp.skip | apply ABlock.normal | (apply Gc.cond; refine AWp.condT (ao rfl) ?_))
    refine ALoop.next (P.length - (k + 1)) (by omega) ⟨k + 1, by omega, rfl, rfl⟩ ?_
    exact AS.le_of (by repeat (first | exact FrLe.nil | refine FrLe.cons rfl (AVle.d rfl) ?_ | refine FrLe.cons rfl (AVle.ptr rfl) ?_)) (by repeat (first | exact HpLe.nil | refine HpLe.cons (OwLe.varD (by rw [hst] <;> rfl)) ?_ | refine HpLe.cons (OwLe.varD rfl) ?_))
   ·rw [upT, if_neg hc] at hst
    repeat (first | apply AWp.seq | apply AWp.region | (apply Ga.alloc; refine AWs.al (tab_of rfl) rfl rfl rfl rfl rfl rfl ?_) | (apply Ga.store; refine AWs.stF (ao rfl) (ao rfl) rfl (tab_of rfl) rfl rfl rfl ?_) | (refine AWs.q rfl rfl ?_; first | (apply Gt.move; refine ⟨_, Qs.move (ao rfl), ?_⟩) | (apply Gt.load; first | refine ⟨_, Qs.ldD (ao rfl) rfl (tab_of rfl) rfl rfl, ?_⟩ | refine ⟨_, Qs.loadEf (ao rfl) (tab_of rfl) rfl rfl, ?_⟩) | (apply Gt.fieldAddr; refine ⟨_, Qs.fldP (ao rfl) (tab_of rfl) rfl (tab_of rfl) rfl, ?_⟩) | (apply Gt.indexAddr; refine ⟨_, Qs.indexN rfl (ao rfl) (tab_of rfl) (tab_of rfl) rfl (by first | omega | (simp; omega)), ?_⟩) | (apply Gt.add; refine ⟨_, Qs.succ (ao rfl) (ao rfl) (by omega), ?_⟩) | (apply Gt.bin; first | refine ⟨_, Qs.cmpT rfl (ao rfl) (ao rfl) (by first | (simp only [cmpP, List.length_cons, List.length_nil]; omega) | (simp [cmpP]; done) | (simp [cmpP]; omega)), ?_⟩ | refine ⟨_, Qs.cmpF rfl (ao rfl) (ao rfl) (by first | (simp only [cmpP, List.length_cons, List.length_nil]; omega) | (simp [cmpP]; done) | (simp [cmpP]; omega)), ?_⟩) | (apply Gt.callv; refine ⟨_, Qs.call (ao rfl) (oCmp_abs R (tAt P k).m (leadF R s (P.take k)).m hR hin hin') (by repeat (first | exact ArgsLe.nil | refine ArgsLe.cons rfl (D.le.refl _) ?_ | refine ArgsLe.cons rfl D.le_nil ?_)), ?_⟩)) | apply AWl.nil | apply AThen.normal | apply AWp.block | apply AWp.skip | apply ABlock.normal | (apply Gc.cond; first | refine AWp.condT (ao rfl) ?_ | refine AWp.condF (ao rfl) ?_))
    refine ALoop.next (P.length - (k + 1)) (by omega) ⟨k + 1, by omega, rfl, rfl⟩ ?_
    exact AS.le_of (by repeat (first | exact FrLe.nil | refine FrLe.cons rfl (AVle.d rfl) ?_ | refine FrLe.cons rfl (AVle.ptr rfl) ?_)) (by repeat (first | exact HpLe.nil | refine HpLe.cons (OwLe.varD (by rw [hst] <;> rfl)) ?_ | refine HpLe.cons (OwLe.varD rfl) ?_))
  ·obtain rfl : k = P.length := by omega
   repeat (first | apply AWp.seq | apply AWp.region | (apply Ga.store; refine AWs.stF (ao rfl) (ao rfl) rfl (tab_of rfl) rfl rfl rfl ?_) | (refine AWs.q rfl rfl ?_; first | (apply Gt.assign; refine ⟨_, Qs.assign (ao rfl), ?_⟩) | (apply Gt.load; refine ⟨_, Qs.ldD (ao rfl) rfl (tab_of rfl) rfl rfl, ?_⟩) | (apply Gt.bin; refine ⟨_, Qs.cmpF rfl (ao rfl) (ao rfl) (by first | (simp only [cmpP, List.length_cons, List.length_nil]; omega) | (simp [cmpP]; done) | (simp [cmpP]; omega)), ?_⟩)) | apply AWl.nil | apply AThen.normal | apply AWp.exit | apply AWp.ret | apply AThen.exit | apply ABlock.hit | apply ALoop.exit | (apply Gc.cond; refine AWp.condF (ao rfl) ?_))
   exact Fin.ret (Rets.of2 (ResV.cell rfl rfl (tab_of rfl) rfl rfl rfl) (ResV.tmp rfl rfl) (D.le.tup2 (D.le.of_eq (by rw [List.take_length]; rfl)) (D.le.refl _)))
end Go.Proofs.YteicdddphdomkaaGreat
namespace Go.Proofs.YteicdddphdomkaaGreat
open Go.RowKit
section
variable {P : Program} {hp : List Ow} {arg : Operand → AV} {dd : Option Tmp} {ty : TypeId} {ps : String} {af : Array Edge} {gd : Option (Nat × Bool)}
theorem Qs.lenW {x : Operand} {t : TypeId} {e n b : Nat} {z : Value} {l : List Nat} (hx : arg x = .d (wD l)) (ht : Tab P t (.slice e) n b z) : Quiet P hp ⟨dd, .call { callee := .builtin .len, args := #[x], argTypes := #[t] }, ty, ps, af, gd⟩ arg (.d (ex (.int .i64 (l.length : Nat)))) := by
 refine ⟨fun base s ρ ev hok hbs hhp h => ?_⟩
 have h1 := h x (by simp [Op.operands, Call.operands])
 rw [hx] at h1
 obtain ⟨A, c, e1, h2⟩ := h1.1
 rw [List.length_map] at e1
 refine opG_val (v := .int .i64 l.length) ?_ ⟨GS.Le.refl s, rfl⟩
 simp [execOp, resolve, invoke, builtin, e1, Builtin.len_, run_underlying ht.und, goInt]
theorem Qs.indexW {x y : Operand} {t : TypeId} {e n b b' k : Nat} {d : TypeDesc} {z z' : Value} {l : List Nat} {κ : IntKind} (hx : arg x = .d (wD l)) (hy : arg y = .d (ex (.int κ ((k : Nat) : Int)))) (ht : Tab P t (.slice e) n b z) (he : Tab P e d 1 b' z') (hk : k < l.length) : Quiet P hp ⟨dd, .indexAddr t x y, ty, ps, af, gd⟩ arg (.d (epD 137 [ex (.int .u32 (l.getD k 0 : Nat))])) := by
 refine ⟨fun base s ρ ev hok hbs hhp h => ?_⟩
 have h1 := h x (by simp [Op.operands])
 have h2 := h y (by simp [Op.operands])
 rw [hx] at h1; rw [hy] at h2
 have e2 : ev y = .int κ ((k : Nat) : Int) := h2
 obtain ⟨A, c, e1, h3, h4, h5⟩ := h1.1
 rw [List.length_map] at e1 h5
 obtain ⟨g, p, rfl, h6⟩ := h5 (by omega)
 have h7 := (h6 k hk).2
 have e3 : (l.map fun x => [ex (.int .u32 (x : Nat))]).getD k [] = [ex (.int .u32 (l.getD k 0 : Nat))] := by
  simp [List.getD_eq_getElem?_getD, hk]
 rw [e3] at h7
 refine opG_val (v := .pointer (some ⟨g, p + k * 1, none⟩)) ?_ ⟨GS.Le.refl s, g, _, rfl, h7⟩
 have hb : k < l.length := hk
 simp [execOp, e1, e2, Instr.indexAt, asIntOf, run_underlying ht.und, hb, he.run_size, Addr.add_lit]
end
theorem isOne_abs (z : Int) : Abs Tryz.prog 125 [agD (intC z)] (ex (.bool (decide (z = 1)))) := by
 refine Abs.of_old (callFunc_run Tryz.func125 (by kernel_rfl) (by kernel_rfl)) fun s vs hok hl hv => ?_
 rw [vs1 hl]
 obtain ⟨x0, X0, n0, c0, e0, h0⟩ := intC_open (hv 0 (by simp))
 rw [e0]
 exact (isOne_any x0 X0 n0 c0 z _ h0).mono fun e w' ⟨he, hE⟩ => ⟨_, he, hE, fun s' hw hok' _ _ => rfl⟩
theorem sgn_abs (z : Int) : Abs Tryz.prog 124 [agD (intC z)] (ex (.int .i64 z.sign)) := by
 refine Abs.of_old (callFunc_run Tryz.func124 (by kernel_rfl) (by kernel_rfl)) fun s vs hok hl hv => ?_
 rw [vs1 hl]
 obtain ⟨x0, X0, n0, c0, e0, h0⟩ := intC_open (hv 0 (by simp))
 rw [e0]
 exact (sign_any x0 X0 n0 c0 z _ h0).mono fun e w' ⟨he, hE⟩ => ⟨_, he, hE, fun s' hw hok' _ _ => rfl⟩
theorem gcd_abs (x y : Int) (hn : (digs x.natAbs).length ≤ 4398046511104) (hn' : (digs y.natAbs).length ≤ 4398046511104) : Abs Tryz.prog 126 [agD (intC x), agD (intC y)] (agD (intC (Nat.gcd x.natAbs y.natAbs : Nat))) := by
 refine Abs.of_old (callFunc_run Tryz.func126 (by kernel_rfl) (by kernel_rfl)) fun s vs hok hl hv => ?_
 rw [vs2 hl]
 obtain ⟨x0, X0, n0, c0, e0, h0⟩ := intC_open (hv 0 (by simp))
 obtain ⟨x1, X1, n1, c1, e1, h1⟩ := intC_open (hv 1 (by simp))
 rw [e0, e1]
 exact (gcd_any x0 x1 X0 X1 n0 c0 n1 c1 x y _ h0 h1 hn hn').mono fun e w' ⟨y, Y, m, k, he, hI, hE⟩ => ⟨_, he, hE, fun s' hw hok' _ _ => by subst hw; exact intC_mk hok' hI⟩
theorem of_abs (z : Int) (h0 : -9223372036854775808 ≤ z) (h1 : z ≤ 9223372036854775807) : Abs Tryz.prog 135 [ex (.int .i64 z)] (agD (intC z)) := by
 refine Abs.of_old (callFunc_run Tryz.func135 (by kernel_rfl) (by kernel_rfl)) fun s vs hok hl hv => ?_
 rw [vs1 hl]
 have e0 : vs.getD 0 undef = .int .i64 z := hv 0 (by simp)
 rw [e0]
 exact (of_any z _ h0 h1).mono fun e w' ⟨y, Y, m, k, he, hI, hE⟩ => ⟨_, he, hE, fun s' hw hok' _ _ => by subst hw; exact intC_mk hok' hI⟩
theorem Rgcd_abs (x y : Int) (hn : (digs x.natAbs).length ≤ 4398046511103) (hn' : (digs y.natAbs).length ≤ 4398046511103) : Abs Tryz.prog 90 [agD (intC x), agD (intC y)] (agD (intC (Nat.gcd x.natAbs y.natAbs : Nat))) := by
 refine Abs.of_old (callFunc_run Tryz.func90 (by kernel_rfl) (by kernel_rfl)) fun s vs hok hl hv => ?_
 rw [vs2 hl]
 obtain ⟨x0, X0, n0, c0, e0, h0⟩ := intC_open (hv 0 (by simp))
 obtain ⟨x1, X1, n1, c1, e1, h1⟩ := intC_open (hv 1 (by simp))
 rw [e0, e1]
 exact (Rgcd_any x0 x1 X0 X1 n0 c0 n1 c1 x y _ h0 h1 hn hn').mono fun e w' ⟨y, Y, m, k, he, hI, hE⟩ => ⟨_, he, hE, fun s' hw hok' _ _ => by subst hw; exact intC_mk hok' hI⟩
theorem Rof_abs (z : Int) (h0 : -9223372036854775808 ≤ z) (h1 : z ≤ 9223372036854775807) : Abs Tryz.prog 82 [ex (.int .i64 z)] (agD (intC z)) := by
 refine Abs.of_old (callFunc_run Tryz.func82 (by kernel_rfl) (by kernel_rfl)) fun s vs hok hl hv => ?_
 rw [vs1 hl]
 have e0 : vs.getD 0 undef = .int .i64 z := hv 0 (by simp)
 rw [e0]
 exact (Rof_any z _ h0 h1).mono fun e w' ⟨y, Y, m, k, he, hI, hE⟩ => ⟨_, he, hE, fun s' hw hok' _ _ => by subst hw; exact intC_mk hok' hI⟩
theorem compare_abs (x y : Nat) : Abs Tryz.prog 163 [wD (digs x), wD (digs y)] (ex (.int .i64 (cmpN x y))) := by
 refine Abs.of_old (callFunc_run Tryz.func163 (by kernel_rfl) (by kernel_rfl)) fun s vs hok hl hv => ?_
 rw [vs2 hl]
 exact (compare_any _ _ x y _ (wD_words (hv 0 (by simp))) (wD_words (hv 1 (by simp)))).mono fun e w' ⟨he, hE⟩ => ⟨_, he, hE, fun s' hw hok' _ _ => rfl⟩
theorem Rcompared_abs (x y : Nat) : Abs Tryz.prog 138 [wD (digs x), wD (digs y)] (ex (.int .i64 (cmpN x y))) := by
 refine Abs.of_old (callFunc_run Tryz.func138 (by kernel_rfl) (by kernel_rfl)) fun s vs hok hl hv => ?_
 rw [vs2 hl]
 exact (Rcompared_any _ _ x y _ (wD_words (hv 0 (by simp))) (wD_words (hv 1 (by simp)))).mono fun e w' ⟨he, hE⟩ => ⟨_, he, hE, fun s' hw hok' _ _ => rfl⟩
end Go.Proofs.YteicdddphdomkaaGreat
namespace Go.Proofs.YteicdddphdomkaaGreat
open Go.RowKit
set_option maxRecDepth 100000
def intOk (b : Bool) (l : List Nat) : Bool := if l.length = 0 then !b else (((l.getD (l.length - 1) 0 : Nat) : Int) != 0)
theorem iValid_abs (b : Bool) (l : List Nat) (hn : l.length ≤ 1000000000) : Abs Tryz.prog 123 [agD [ex (.bool b), wD l]] (ex (.bool (intOk b l))) := by
 refine Abs.intro Tryz.func123 rfl (callFunc_run Tryz.func123 (by kernel_rfl) (by kernel_rfl)) rfl fun s0 => ?_
 rw [Tryz.ntmps123]
 repeat (first | apply AWp.seq | apply AWp.region | (apply Ga.box; refine AWs.bx (ao rfl) rfl rfl rfl rfl ?_) | (refine AWs.q rfl rfl ?_; first | (apply Gt.move; refine ⟨_, Qs.move (ao rfl), ?_⟩) | (apply Gt.assign; refine ⟨_, Qs.assign (ao rfl), ?_⟩) | (apply Gt.load; refine ⟨_, Qs.ldD1 (ao rfl) rfl (tab_of rfl) rfl rfl, ?_⟩) | (apply Gt.fieldAddr; refine ⟨_, Qs.fldP (ao rfl) (tab_of rfl) rfl (tab_of rfl) rfl, ?_⟩) | (apply Gt.len; refine ⟨_, Qs.lenW (ao rfl) (tab_of rfl), ?_⟩) | (apply Gt.bin; refine ⟨_, Qs.cmp (ao rfl) (ao rfl) rfl, ?_⟩)) | apply AWl.nil | apply AThen.normal)
 by_cases h0 : l.length = 0
 ·repeat (first | apply AWp.seq | apply AWp.region | (refine AWs.q rfl rfl ?_; first | (apply Gt.assign; refine ⟨_, Qs.assign (ao rfl), ?_⟩) | (apply Gt.load; refine ⟨_, Qs.ldD1 (ao rfl) rfl (tab_of rfl) rfl rfl, ?_⟩) | (apply Gt.fieldAddr; refine ⟨_, Qs.fldP (ao rfl) (tab_of rfl) rfl (tab_of rfl) rfl, ?_⟩) | (apply Gt.un; refine ⟨_, Qs.not (ao rfl), ?_⟩)) | apply AWl.nil | apply AThen.normal | apply AWp.ret | apply AThen.ret | (apply Gc.cond; refine AWp.condEqT (ao rfl) (decide_eq_true (by omega)) ?_))
  exact Fin.ret (Rets.of1 (ResV.tmp rfl rfl) (D.le.of_eq (by rw [intOk, if_pos h0])))
 ·repeat (first | apply AWp.seq | apply AWp.region | (refine AWs.q rfl rfl ?_; first | (apply Gt.move; refine ⟨_, Qs.move (ao rfl), ?_⟩) | (apply Gt.assign; refine ⟨_, Qs.assign (ao rfl), ?_⟩) | (apply Gt.load; first | refine ⟨_, Qs.ldD1 (ao rfl) rfl (tab_of rfl) rfl rfl, ?_⟩ | refine ⟨_, Qs.ldE1 (ao rfl) (tab_of rfl) rfl rfl, ?_⟩) | (apply Gt.fieldAddr; refine ⟨_, Qs.fldP (ao rfl) (tab_of rfl) rfl (tab_of rfl) rfl, ?_⟩) | (apply Gt.indexAddr; refine ⟨_, Qs.indexW (ao rfl) (ao rfl) (tab_of rfl) (tab_of rfl) (by first | omega | (simp; omega)), ?_⟩) | (apply Gt.sub; refine ⟨_, Qs.pred (ao rfl) (ao rfl) (by omega) (by omega), ?_⟩) | (apply Gt.bin; refine ⟨_, Qs.cmp (ao rfl) (ao rfl) rfl, ?_⟩)) | apply AWl.nil | apply AThen.normal | apply AWp.skip | apply AWp.ret | (apply Gc.cond; refine AWp.condEqF (ao rfl) (decide_eq_false (by omega)) ?_))
  exact Fin.ret (Rets.of1 (ResV.tmp rfl rfl) (D.le.of_eq (by rw [intOk, if_neg h0])))
theorem RiValid_abs (b : Bool) (l : List Nat) (hn : l.length ≤ 1000000000) : Abs Tryz.prog 87 [agD [ex (.bool b), wD l]] (ex (.bool (intOk b l))) := by
 refine Abs.intro Tryz.func87 rfl (callFunc_run Tryz.func87 (by kernel_rfl) (by kernel_rfl)) rfl fun s0 => ?_
 rw [Tryz.ntmps87]
 repeat (first | apply AWp.seq | apply AWp.region | (apply Ga.box; refine AWs.bx (ao rfl) rfl rfl rfl rfl ?_) | (refine AWs.q rfl rfl ?_; first | (apply Gt.move; refine ⟨_, Qs.move (ao rfl), ?_⟩) | (apply Gt.assign; refine ⟨_, Qs.assign (ao rfl), ?_⟩) | (apply Gt.load; refine ⟨_, Qs.ldD1 (ao rfl) rfl (tab_of rfl) rfl rfl, ?_⟩) | (apply Gt.fieldAddr; refine ⟨_, Qs.fldP (ao rfl) (tab_of rfl) rfl (tab_of rfl) rfl, ?_⟩) | (apply Gt.len; refine ⟨_, Qs.lenW (ao rfl) (tab_of rfl), ?_⟩) | (apply Gt.bin; refine ⟨_, Qs.cmp (ao rfl) (ao rfl) rfl, ?_⟩)) | apply AWl.nil | apply AThen.normal)
 by_cases h0 : l.length = 0
 ·repeat (first | apply AWp.seq | apply AWp.region | (refine AWs.q rfl rfl ?_; first | (apply Gt.assign; refine ⟨_, Qs.assign (ao rfl), ?_⟩) | (apply Gt.load; refine ⟨_, Qs.ldD1 (ao rfl) rfl (tab_of rfl) rfl rfl, ?_⟩) | (apply Gt.fieldAddr; refine ⟨_, Qs.fldP (ao rfl) (tab_of rfl) rfl (tab_of rfl) rfl, ?_⟩) | (apply Gt.un; refine ⟨_, Qs.not (ao rfl), ?_⟩)) | apply AWl.nil | apply AThen.normal | apply AWp.ret | apply AThen.ret | (apply Gc.cond; refine AWp.condEqT (ao rfl) (decide_eq_true (by omega)) ?_))
  exact Fin.ret (Rets.of1 (ResV.tmp rfl rfl) (D.le.of_eq (by rw [intOk, if_pos h0])))
 ·repeat (first | apply AWp.seq | apply AWp.region | (refine AWs.q rfl rfl ?_; first | (apply Gt.move; refine ⟨_, Qs.move (ao rfl), ?_⟩) | (apply Gt.assign; refine ⟨_, Qs.assign (ao rfl), ?_⟩) | (apply Gt.load; first | refine ⟨_, Qs.ldD1 (ao rfl) rfl (tab_of rfl) rfl rfl, ?_⟩ | refine ⟨_, Qs.ldE1 (ao rfl) (tab_of rfl) rfl rfl, ?_⟩) | (apply Gt.fieldAddr; refine ⟨_, Qs.fldP (ao rfl) (tab_of rfl) rfl (tab_of rfl) rfl, ?_⟩) | (apply Gt.indexAddr; refine ⟨_, Qs.indexW (ao rfl) (ao rfl) (tab_of rfl) (tab_of rfl) (by first | omega | (simp; omega)), ?_⟩) | (apply Gt.sub; refine ⟨_, Qs.pred (ao rfl) (ao rfl) (by omega) (by omega), ?_⟩) | (apply Gt.bin; refine ⟨_, Qs.cmp (ao rfl) (ao rfl) rfl, ?_⟩)) | apply AWl.nil | apply AThen.normal | apply AWp.skip | apply AWp.ret | (apply Gc.cond; refine AWp.condEqF (ao rfl) (decide_eq_false (by omega)) ?_))
  exact Fin.ret (Rets.of1 (ResV.tmp rfl rfl) (D.le.of_eq (by rw [intOk, if_neg h0])))
theorem trimW_last : ∀ {l : List Nat}, l ≠ [] → l.getD (l.length - 1) 0 ≠ 0 → trimW l = l
 | [], h, _ => absurd rfl h
 | [x], _, h => by
  have h : x ≠ 0 := h
  simp [trimW, h]
 | x :: y :: l, _, h => by
  have h' : (y :: l).getD ((y :: l).length - 1) 0 ≠ 0 := by
   have e : (x :: y :: l).getD ((x :: y :: l).length - 1) 0 = (y :: l).getD ((y :: l).length - 1) 0 := by simp
   rwa [e] at h
  have ih := trimW_last (l := y :: l) (by simp) h'
  rw [trimW, ih]
theorem intOk_int {b : Bool} {l : List Nat} (hs : Small l) (h : intOk b l = true) : ∃ z : Int, b = decide (z < 0) ∧ l = digs z.natAbs := by
 unfold intOk at h
 split at h
 ·rename_i h0
  obtain rfl := List.eq_nil_of_length_eq_zero h0
  exact ⟨0, by simpa using h, by simp [digs_zero]⟩
 ·rename_i h0
  have h1 : l ≠ [] := fun e => h0 (by rw [e]; rfl)
  have h2 : l.getD (l.length - 1) 0 ≠ 0 := fun e => by rw [e] at h; simp at h
  have h3 : l = digs (val l) := by rw [← trimW_eq_digs hs, trimW_last h1 h2]
  have h4 : val l ≠ 0 := fun e => by rw [e, digs_zero] at h3; exact h1 h3
  cases b with
  | true => exact ⟨-(val l : Int), by simp; omega, by simpa using h3⟩
  | false => exact ⟨(val l : Int), by simp, by simpa using h3⟩
theorem int_intOk (z : Int) : intOk (decide (z < 0)) (digs z.natAbs) = true := by
 unfold intOk
 split
 ·rename_i h
  have := digs_length_zero.1 h
  have : z = 0 := by omega
  subst this
  rfl
 ·rename_i h
  have hd : (digs z.natAbs).getD ((digs z.natAbs).length - 1) 0 ≠ 0 := by
   have key : ∀ n, n ≠ 0 → (digs n).getD ((digs n).length - 1) 0 ≠ 0 := by
    intro n
    induction n using Nat.strongRecOn with
    | _ n ih =>
     intro hn
     rw [digs_pos hn]
     by_cases h0 : n / BB = 0
     ·rw [h0, digs_zero]
      have : n % BB = n := Nat.mod_eq_of_lt (by have := Nat.div_eq_zero_iff.1 h0; rcases this with h | h; exact absurd h (by decide); exact h)
      simpa [this] using hn
     ·have := ih (n / BB) (Nat.div_lt_self (Nat.pos_of_ne_zero hn) (by decide)) h0
      have hne : (digs (n / BB)).length ≠ 0 := fun e => h0 (digs_length_zero.1 e)
      obtain ⟨m, hm⟩ : ∃ m, (digs (n / BB)).length = m + 1 := ⟨(digs (n / BB)).length - 1, by omega⟩
      rw [hm] at this
      simp only [List.length_cons, hm, Nat.add_sub_cancel, List.getD_cons_succ] at this ⊢
      exact this
   exact key _ fun e => h (digs_length_zero.2 e)
  simp only [bne_iff_ne, ne_eq]
  omega
end Go.Proofs.YteicdddphdomkaaGreat
namespace Go.Proofs.YteicdddphdomkaaGreat
open Go.RowKit
set_option maxRecDepth 100000
def QOk (b : Bool) (l : List Nat) (b' : Bool) (l' : List Nat) : Prop := ∃ q : Rat, b = decide (q.num < 0) ∧ l = digs q.num.natAbs ∧ b' = decide ((q.den : Int) < 0) ∧ l' = digs (q.den : Int).natAbs
theorem int_inj {x y : Int} (h : decide (x < 0) = decide (y < 0)) (h' : digs x.natAbs = digs y.natAbs) : x = y := by
 have h1 : x.natAbs = y.natAbs := by rw [← val_digs x.natAbs, h', val_digs]
 have h2 : (x < 0) ↔ (y < 0) := by simpa using h
 omega
theorem QOk_int (x y : Int) : QOk (decide (x < 0)) (digs x.natAbs) (decide (y < 0)) (digs y.natAbs) ↔ 0 < y ∧ Nat.gcd x.natAbs y.natAbs = 1 := by
 constructor
 ·rintro ⟨q, h1, h2, h3, h4⟩
  have e1 := int_inj h1 h2
  have e2 := int_inj h3 h4
  subst e1; subst e2
  exact ⟨by have := q.den_pos; omega, q.reduced⟩
 ·rintro ⟨h1, h2⟩
  refine ⟨⟨x, y.natAbs, by omega, h2⟩, rfl, rfl, ?_, ?_⟩
  ·show decide (y < 0) = decide (((y.natAbs : Nat) : Int) < 0)
   rw [decide_eq_false (show ¬ y < 0 by omega), decide_eq_false (by omega)]
  ·show digs y.natAbs = digs ((y.natAbs : Nat) : Int).natAbs
   rfl
theorem QOk_ok {b : Bool} {l : List Nat} {b' : Bool} {l' : List Nat} (h : QOk b l b' l') : intOk b l = true ∧ intOk b' l' = true := by
 obtain ⟨q, rfl, rfl, rfl, rfl⟩ := h
 exact ⟨int_intOk _, int_intOk _⟩
def rawC (b : Bool) (l : List Nat) (b' : Bool) (l' : List Nat) : List D := [ex (.bool b), wD l, ex (.bool b'), wD l']
open Classical in
theorem rValid_abs (b : Bool) (l : List Nat) (b' : Bool) (l' : List Nat) (hs : Small l) (hs' : Small l') (hn : l.length ≤ 1000000000) (hn' : l'.length ≤ 1000000000) : Abs Tryz.prog 67 [agD (rawC b l b' l')] (ex (.bool (decide (QOk b l b' l')))) := by
 have c1 := iValid_abs b l hn
 have c2 := iValid_abs b' l' hn'
 cases h1 : intOk b l with
 | false =>
  have hq : ¬ QOk b l b' l' := fun h => by rw [(QOk_ok h).1] at h1; cases h1
  rw [h1] at c1
  rw [decide_eq_false hq]
  refine Abs.intro Tryz.func67 rfl (callFunc_run Tryz.func67 (by kernel_rfl) (by kernel_rfl)) rfl fun s0 => ?_
  rw [Tryz.ntmps67]
  repeat (first | apply AWp.seq | apply AWp.region | (apply Ga.box; refine AWs.bx (ao rfl) rfl rfl rfl rfl ?_) | (refine AWs.q rfl rfl ?_; first | (apply Gt.move; refine ⟨_, Qs.move (ao rfl), ?_⟩) | (apply Gt.assign; refine ⟨_, Qs.assign (ao rfl), ?_⟩) | (apply Gt.load; refine ⟨_, Qs.ldD (ao rfl) rfl (tab_of rfl) rfl rfl, ?_⟩) | (apply Gt.fieldAddr; refine ⟨_, Qs.fldP (ao rfl) (tab_of rfl) rfl (tab_of rfl) rfl, ?_⟩) | (apply Gt.un; refine ⟨_, Qs.not (ao rfl), ?_⟩) | (apply Gt.pick; refine ⟨_, Qs.pickT (ao rfl) (ao rfl), ?_⟩) | (apply Gt.callv; refine ⟨_, Qs.call (ao rfl) (c1) (by first | ((repeat (first | exact ArgsLe.nil | refine ArgsLe.cons rfl (D.le.refl _) ?_ | refine ArgsLe.cons rfl D.le_nil ?_)); done) | fail), ?_⟩)) | refine AWs.sG rfl rfl rfl rfl rfl ?_ | apply AWl.nil | apply AThen.normal | apply AWp.ret | apply AThen.ret | (apply Gc.cond; refine AWp.condT (ao rfl) ?_))
  exact Fin.ret (Rets.of1 (ResV.tmp rfl rfl) (D.le.refl _))
 | true =>
  rw [h1] at c1
  cases h2 : intOk b' l' with
  | false =>
   have hq : ¬ QOk b l b' l' := fun h => by rw [(QOk_ok h).2] at h2; cases h2
   rw [h2] at c2
   rw [decide_eq_false hq]
   refine Abs.intro Tryz.func67 rfl (callFunc_run Tryz.func67 (by kernel_rfl) (by kernel_rfl)) rfl fun s0 => ?_
   rw [Tryz.ntmps67]
   repeat (first | apply AWp.seq | apply AWp.region | (apply Ga.box; refine AWs.bx (ao rfl) rfl rfl rfl rfl ?_) | (refine AWs.q rfl rfl ?_; first | (apply Gt.move; refine ⟨_, Qs.move (ao rfl), ?_⟩) | (apply Gt.assign; refine ⟨_, Qs.assign (ao rfl), ?_⟩) | (apply Gt.load; refine ⟨_, Qs.ldD (ao rfl) rfl (tab_of rfl) rfl rfl, ?_⟩) | (apply Gt.fieldAddr; refine ⟨_, Qs.fldP (ao rfl) (tab_of rfl) rfl (tab_of rfl) rfl, ?_⟩) | (apply Gt.un; refine ⟨_, Qs.not (ao rfl), ?_⟩) | (apply Gt.pick; first | refine ⟨_, Qs.pickT (ao rfl) (ao rfl), ?_⟩ | refine ⟨_, Qs.pickF (ao rfl) (ao rfl), ?_⟩) | (apply Gt.callv; refine ⟨_, Qs.call (ao rfl) (c1) (by first | ((repeat (first | exact ArgsLe.nil | refine ArgsLe.cons rfl (D.le.refl _) ?_ | refine ArgsLe.cons rfl D.le_nil ?_)); done) | fail), ?_⟩)) | refine AWs.sG rfl rfl rfl rfl rfl ?_ | (refine AWs.qG rfl rfl rfl rfl rfl ?_; first | (apply Gt.load; refine ⟨_, Qs.ldD (ao rfl) rfl (tab_of rfl) rfl rfl, ?_⟩) | (apply Gt.fieldAddr; refine ⟨_, Qs.fldP (ao rfl) (tab_of rfl) rfl (tab_of rfl) rfl, ?_⟩) | (apply Gt.un; refine ⟨_, Qs.not (ao rfl), ?_⟩) | (apply Gt.callv; refine ⟨_, Qs.call (ao rfl) (c2) (by first | ((repeat (first | exact ArgsLe.nil | refine ArgsLe.cons rfl (D.le.refl _) ?_ | refine ArgsLe.cons rfl D.le_nil ?_)); done) | fail), ?_⟩)) | apply AWl.nil | apply AThen.normal | apply AWp.ret | apply AThen.ret | (apply Gc.cond; refine AWp.condT (ao rfl) ?_))
   exact Fin.ret (Rets.of1 (ResV.tmp rfl rfl) (D.le.refl _))
  | true =>
   rw [h2] at c2
   obtain ⟨x, rfl, rfl⟩ := intOk_int hs h1
   obtain ⟨y, rfl, rfl⟩ := intOk_int hs' h2
   by_cases hy : 0 < y
   ·have hsg : y.sign = 1 := Int.sign_eq_one_of_pos hy
    have c3 := isOne_abs y
    by_cases hy1 : y = 1
    ·rw [decide_eq_true hy1] at c3
     rw [decide_eq_true ((QOk_int x y).2 ⟨hy, by subst hy1; exact Nat.gcd_one_right _⟩)]
     refine Abs.intro Tryz.func67 rfl (callFunc_run Tryz.func67 (by kernel_rfl) (by kernel_rfl)) rfl fun s0 => ?_
     rw [Tryz.ntmps67]
     repeat (first | apply AWp.seq | apply AWp.region | (apply Ga.box; refine AWs.bx (ao rfl) rfl rfl rfl rfl ?_) | (refine AWs.q rfl rfl ?_; first | (apply Gt.move; refine ⟨_, Qs.move (ao rfl), ?_⟩) | (apply Gt.assign; refine ⟨_, Qs.assign (ao rfl), ?_⟩) | (apply Gt.load; refine ⟨_, Qs.ldD (ao rfl) rfl (tab_of rfl) rfl rfl, ?_⟩) | (apply Gt.fieldAddr; refine ⟨_, Qs.fldP (ao rfl) (tab_of rfl) rfl (tab_of rfl) rfl, ?_⟩) | (apply Gt.un; refine ⟨_, Qs.not (ao rfl), ?_⟩) | (apply Gt.pick; first | refine ⟨_, Qs.pickT (ao rfl) (ao rfl), ?_⟩ | refine ⟨_, Qs.pickF (ao rfl) (ao rfl), ?_⟩) | (apply Gt.callv; first | refine ⟨_, Qs.call (ao rfl) (c1) (by first | ((repeat (first | exact ArgsLe.nil | refine ArgsLe.cons rfl (D.le.refl _) ?_ | refine ArgsLe.cons rfl D.le_nil ?_)); done) | fail), ?_⟩ | refine ⟨_, Qs.call (ao rfl) (c3) (by first | ((repeat (first | exact ArgsLe.nil | refine ArgsLe.cons rfl (D.le.refl _) ?_ | refine ArgsLe.cons rfl D.le_nil ?_)); done) | fail), ?_⟩)) | refine AWs.sG rfl rfl rfl rfl rfl ?_ | (refine AWs.qG rfl rfl rfl rfl rfl ?_; first | (apply Gt.load; refine ⟨_, Qs.ldD (ao rfl) rfl (tab_of rfl) rfl rfl, ?_⟩) | (apply Gt.fieldAddr; refine ⟨_, Qs.fldP (ao rfl) (tab_of rfl) rfl (tab_of rfl) rfl, ?_⟩) | (apply Gt.bin; refine ⟨_, Qs.cmpF rfl (ao rfl) (ao rfl) (by first | (simp only [cmpP, List.length_cons, List.length_nil]; omega) | (simp [cmpP]; done) | (simp [cmpP]; omega)), ?_⟩) | (apply Gt.un; refine ⟨_, Qs.not (ao rfl), ?_⟩) | (apply Gt.callv; first | refine ⟨_, Qs.call (ao rfl) (c2) (by first | ((repeat (first | exact ArgsLe.nil | refine ArgsLe.cons rfl (D.le.refl _) ?_ | refine ArgsLe.cons rfl D.le_nil ?_)); done) | fail), ?_⟩ | refine ⟨_, Qs.call (ao rfl) (sgn_abs y) (by first | ((repeat (first | exact ArgsLe.nil | refine ArgsLe.cons rfl (D.le.refl _) ?_ | refine ArgsLe.cons rfl D.le_nil ?_)); done) | fail), ?_⟩)) | apply AWl.nil | apply AThen.normal | apply AWp.skip | apply AWp.ret | (apply Gc.cond; refine AWp.condF (ao rfl) ?_))
     exact Fin.ret (Rets.of1 (ResV.tmp rfl rfl) (D.le.refl _))
    ·rw [decide_eq_false hy1] at c3
     have hg : decide (QOk (decide (x < 0)) (digs x.natAbs) (decide (y < 0)) (digs y.natAbs)) = decide (((Nat.gcd x.natAbs y.natAbs : Nat) : Int) = 1) := by
      refine decide_eq_decide.2 ((QOk_int x y).trans ⟨fun h => by omega, fun h => ⟨hy, by omega⟩⟩)
     rw [hg]
     refine Abs.intro Tryz.func67 rfl (callFunc_run Tryz.func67 (by kernel_rfl) (by kernel_rfl)) rfl fun s0 => ?_
     rw [Tryz.ntmps67]
     repeat (first | apply AWp.seq | apply AWp.region | (apply Ga.box; refine AWs.bx (ao rfl) rfl rfl rfl rfl ?_) | (refine AWs.q rfl rfl ?_; first | (apply Gt.move; refine ⟨_, Qs.move (ao rfl), ?_⟩) | (apply Gt.assign; refine ⟨_, Qs.assign (ao rfl), ?_⟩) | (apply Gt.load; refine ⟨_, Qs.ldD (ao rfl) rfl (tab_of rfl) rfl rfl, ?_⟩) | (apply Gt.fieldAddr; refine ⟨_, Qs.fldP (ao rfl) (tab_of rfl) rfl (tab_of rfl) rfl, ?_⟩) | (apply Gt.un; refine ⟨_, Qs.not (ao rfl), ?_⟩) | (apply Gt.pick; refine ⟨_, Qs.pickF (ao rfl) (ao rfl), ?_⟩) | (apply Gt.callv; first | refine ⟨_, Qs.call (ao rfl) (c1) (by first | ((repeat (first | exact ArgsLe.nil | refine ArgsLe.cons rfl (D.le.refl _) ?_ | refine ArgsLe.cons rfl D.le_nil ?_)); done) | fail), ?_⟩ | refine ⟨_, Qs.call (ao rfl) (c3) (by first | ((repeat (first | exact ArgsLe.nil | refine ArgsLe.cons rfl (D.le.refl _) ?_ | refine ArgsLe.cons rfl D.le_nil ?_)); done) | fail), ?_⟩)) | (refine AWs.qG rfl rfl rfl rfl rfl ?_; first | (apply Gt.load; refine ⟨_, Qs.ldD (ao rfl) rfl (tab_of rfl) rfl rfl, ?_⟩) | (apply Gt.fieldAddr; refine ⟨_, Qs.fldP (ao rfl) (tab_of rfl) rfl (tab_of rfl) rfl, ?_⟩) | (apply Gt.bin; refine ⟨_, Qs.cmpF rfl (ao rfl) (ao rfl) (by first | (simp only [cmpP, List.length_cons, List.length_nil]; omega) | (simp [cmpP]; done) | (simp [cmpP]; omega)), ?_⟩) | (apply Gt.un; refine ⟨_, Qs.not (ao rfl), ?_⟩) | (apply Gt.callv; first | refine ⟨_, Qs.call (ao rfl) (c2) (by first | ((repeat (first | exact ArgsLe.nil | refine ArgsLe.cons rfl (D.le.refl _) ?_ | refine ArgsLe.cons rfl D.le_nil ?_)); done) | fail), ?_⟩ | refine ⟨_, Qs.call (ao rfl) (sgn_abs y) (by first | ((repeat (first | exact ArgsLe.nil | refine ArgsLe.cons rfl (D.le.refl _) ?_ | refine ArgsLe.cons rfl D.le_nil ?_)); done) | fail), ?_⟩ | refine ⟨_, Qs.call (ao rfl) (gcd_abs x y (by omega) (by omega)) (by first | ((repeat (first | exact ArgsLe.nil | refine ArgsLe.cons rfl (D.le.refl _) ?_ | refine ArgsLe.cons rfl D.le_nil ?_)); done) | fail), ?_⟩ | refine ⟨_, Qs.call (ao rfl) (isOne_abs (Nat.gcd x.natAbs y.natAbs : Nat)) (by first | ((repeat (first | exact ArgsLe.nil | refine ArgsLe.cons rfl (D.le.refl _) ?_ | refine ArgsLe.cons rfl D.le_nil ?_)); done) | fail), ?_⟩)) | apply AWl.nil | apply AThen.normal | apply AWp.skip | apply AWp.ret | (apply Gc.cond; refine AWp.condF (ao rfl) ?_))
     exact Fin.ret (Rets.of1 (ResV.tmp rfl rfl) (D.le.refl _))
   ·have hsg : y.sign ≤ 0 := Int.sign_nonpos_iff.2 (by omega)
    rw [decide_eq_false fun h => hy ((QOk_int x y).1 h).1]
    refine Abs.intro Tryz.func67 rfl (callFunc_run Tryz.func67 (by kernel_rfl) (by kernel_rfl)) rfl fun s0 => ?_
    rw [Tryz.ntmps67]
    repeat (first | apply AWp.seq | apply AWp.region | (apply Ga.box; refine AWs.bx (ao rfl) rfl rfl rfl rfl ?_) | (refine AWs.q rfl rfl ?_; first | (apply Gt.move; refine ⟨_, Qs.move (ao rfl), ?_⟩) | (apply Gt.assign; refine ⟨_, Qs.assign (ao rfl), ?_⟩) | (apply Gt.load; refine ⟨_, Qs.ldD (ao rfl) rfl (tab_of rfl) rfl rfl, ?_⟩) | (apply Gt.fieldAddr; refine ⟨_, Qs.fldP (ao rfl) (tab_of rfl) rfl (tab_of rfl) rfl, ?_⟩) | (apply Gt.un; refine ⟨_, Qs.not (ao rfl), ?_⟩) | (apply Gt.pick; refine ⟨_, Qs.pickF (ao rfl) (ao rfl), ?_⟩) | (apply Gt.callv; refine ⟨_, Qs.call (ao rfl) (c1) (by first | ((repeat (first | exact ArgsLe.nil | refine ArgsLe.cons rfl (D.le.refl _) ?_ | refine ArgsLe.cons rfl D.le_nil ?_)); done) | fail), ?_⟩)) | (refine AWs.qG rfl rfl rfl rfl rfl ?_; first | (apply Gt.load; refine ⟨_, Qs.ldD (ao rfl) rfl (tab_of rfl) rfl rfl, ?_⟩) | (apply Gt.fieldAddr; refine ⟨_, Qs.fldP (ao rfl) (tab_of rfl) rfl (tab_of rfl) rfl, ?_⟩) | (apply Gt.bin; refine ⟨_, Qs.cmpT rfl (ao rfl) (ao rfl) (by first | (simp only [cmpP, List.length_cons, List.length_nil]; omega) | (simp [cmpP]; done) | (simp [cmpP]; omega)), ?_⟩) | (apply Gt.un; refine ⟨_, Qs.not (ao rfl), ?_⟩) | (apply Gt.callv; first | refine ⟨_, Qs.call (ao rfl) (c2) (by first | ((repeat (first | exact ArgsLe.nil | refine ArgsLe.cons rfl (D.le.refl _) ?_ | refine ArgsLe.cons rfl D.le_nil ?_)); done) | fail), ?_⟩ | refine ⟨_, Qs.call (ao rfl) (sgn_abs y) (by first | ((repeat (first | exact ArgsLe.nil | refine ArgsLe.cons rfl (D.le.refl _) ?_ | refine ArgsLe.cons rfl D.le_nil ?_)); done) | fail), ?_⟩)) | apply AWl.nil | apply AThen.normal | apply AWp.ret | apply AThen.ret | (apply Gc.cond; refine AWp.condT (ao rfl) ?_))
    exact Fin.ret (Rets.of1 (ResV.tmp rfl rfl) (D.le.refl _))
end Go.Proofs.YteicdddphdomkaaGreat
namespace Go.Proofs.YteicdddphdomkaaGreat
open Go.RowKit
set_option maxRecDepth 100000
def cmpS (b : Bool) (m : Nat) (b' : Bool) (m' : Nat) : Int := match b, b' with
 | true, true => cmpN m' m
 | true, false => -1
 | false, true => 1
 | false, false => cmpN m m'
theorem RiCmp_raw (b b' : Bool) (m m' : Nat) : Abs Tryz.prog 89 [agD [ex (.bool b), wD (digs m)], agD [ex (.bool b'), wD (digs m')]] (ex (.int .i64 (cmpS b m b' m'))) := by
 cases b <;> cases b'
 ·refine Abs.intro Tryz.func89 rfl (callFunc_run Tryz.func89 (by kernel_rfl) (by kernel_rfl)) rfl fun s0 => ?_
  rw [Tryz.ntmps89]
  repeat (first | apply AWp.seq | apply AWp.region | (apply Ga.box; refine AWs.bx (ao rfl) rfl rfl rfl rfl ?_) | (refine AWs.q rfl rfl ?_; first | (apply Gt.move; refine ⟨_, Qs.move (ao rfl), ?_⟩) | (apply Gt.assign; refine ⟨_, Qs.assign (ao rfl), ?_⟩) | (apply Gt.load; refine ⟨_, Qs.ldD1 (ao rfl) rfl (tab_of rfl) rfl rfl, ?_⟩) | (apply Gt.fieldAddr; refine ⟨_, Qs.fldP (ao rfl) (tab_of rfl) rfl (tab_of rfl) rfl, ?_⟩) | (apply Gt.un; refine ⟨_, Qs.not (ao rfl), ?_⟩) | (apply Gt.pick; first | refine ⟨_, Qs.pickT (ao rfl) (ao rfl), ?_⟩ | refine ⟨_, Qs.pickF (ao rfl) (ao rfl), ?_⟩) | (apply Gt.callv; refine ⟨_, Qs.call (ao rfl) (Rcompared_abs m m') (by first | ((repeat (first | exact ArgsLe.nil | refine ArgsLe.cons rfl (D.le.refl _) ?_ | refine ArgsLe.cons rfl D.le_nil ?_)); done) | fail), ?_⟩)) | refine AWs.sG rfl rfl rfl rfl rfl ?_ | (refine AWs.qG rfl rfl rfl rfl rfl ?_; first | (apply Gt.load; refine ⟨_, Qs.ldD1 (ao rfl) rfl (tab_of rfl) rfl rfl, ?_⟩) | (apply Gt.fieldAddr; refine ⟨_, Qs.fldP (ao rfl) (tab_of rfl) rfl (tab_of rfl) rfl, ?_⟩)) | apply AWl.nil | apply AThen.normal | apply AWp.skip | apply AWp.ret | (apply Gc.cond; refine AWp.condF (ao rfl) ?_))
  exact Fin.ret (Rets.of1 (ResV.tmp rfl rfl) (D.le.refl _))
 ·refine Abs.intro Tryz.func89 rfl (callFunc_run Tryz.func89 (by kernel_rfl) (by kernel_rfl)) rfl fun s0 => ?_
  rw [Tryz.ntmps89]
  repeat (first | apply AWp.seq | apply AWp.region | (apply Ga.box; refine AWs.bx (ao rfl) rfl rfl rfl rfl ?_) | (refine AWs.q rfl rfl ?_; first | (apply Gt.move; refine ⟨_, Qs.move (ao rfl), ?_⟩) | (apply Gt.assign; refine ⟨_, Qs.assign (ao rfl), ?_⟩) | (apply Gt.load; refine ⟨_, Qs.ldD1 (ao rfl) rfl (tab_of rfl) rfl rfl, ?_⟩) | (apply Gt.fieldAddr; refine ⟨_, Qs.fldP (ao rfl) (tab_of rfl) rfl (tab_of rfl) rfl, ?_⟩) | (apply Gt.un; refine ⟨_, Qs.not (ao rfl), ?_⟩) | (apply Gt.pick; first | refine ⟨_, Qs.pickT (ao rfl) (ao rfl), ?_⟩ | refine ⟨_, Qs.pickF (ao rfl) (ao rfl), ?_⟩)) | refine AWs.sG rfl rfl rfl rfl rfl ?_ | (refine AWs.qG rfl rfl rfl rfl rfl ?_; first | (apply Gt.load; refine ⟨_, Qs.ldD1 (ao rfl) rfl (tab_of rfl) rfl rfl, ?_⟩) | (apply Gt.fieldAddr; refine ⟨_, Qs.fldP (ao rfl) (tab_of rfl) rfl (tab_of rfl) rfl, ?_⟩)) | apply AWl.nil | apply AThen.normal | apply AWp.skip | apply AWp.ret | apply AThen.ret | (apply Gc.cond; first | refine AWp.condT (ao rfl) ?_ | refine AWp.condF (ao rfl) ?_))
  exact Fin.ret (Rets.of1 (ResV.tmp rfl rfl) (D.le.refl _))
 ·refine Abs.intro Tryz.func89 rfl (callFunc_run Tryz.func89 (by kernel_rfl) (by kernel_rfl)) rfl fun s0 => ?_
  rw [Tryz.ntmps89]
  repeat (first | apply AWp.seq | apply AWp.region | (apply Ga.box; refine AWs.bx (ao rfl) rfl rfl rfl rfl ?_) | (refine AWs.q rfl rfl ?_; first | (apply Gt.move; refine ⟨_, Qs.move (ao rfl), ?_⟩) | (apply Gt.assign; refine ⟨_, Qs.assign (ao rfl), ?_⟩) | (apply Gt.load; refine ⟨_, Qs.ldD1 (ao rfl) rfl (tab_of rfl) rfl rfl, ?_⟩) | (apply Gt.fieldAddr; refine ⟨_, Qs.fldP (ao rfl) (tab_of rfl) rfl (tab_of rfl) rfl, ?_⟩) | (apply Gt.pick; refine ⟨_, Qs.pickT (ao rfl) (ao rfl), ?_⟩)) | (refine AWs.qG rfl rfl rfl rfl rfl ?_; first | (apply Gt.load; refine ⟨_, Qs.ldD1 (ao rfl) rfl (tab_of rfl) rfl rfl, ?_⟩) | (apply Gt.fieldAddr; refine ⟨_, Qs.fldP (ao rfl) (tab_of rfl) rfl (tab_of rfl) rfl, ?_⟩) | (apply Gt.un; refine ⟨_, Qs.not (ao rfl), ?_⟩)) | apply AWl.nil | apply AThen.normal | apply AWp.ret | apply AThen.ret | (apply Gc.cond; refine AWp.condT (ao rfl) ?_))
  exact Fin.ret (Rets.of1 (ResV.tmp rfl rfl) (D.le.refl _))
 ·refine Abs.intro Tryz.func89 rfl (callFunc_run Tryz.func89 (by kernel_rfl) (by kernel_rfl)) rfl fun s0 => ?_
  rw [Tryz.ntmps89]
  repeat (first | apply AWp.seq | apply AWp.region | (apply Ga.box; refine AWs.bx (ao rfl) rfl rfl rfl rfl ?_) | (refine AWs.q rfl rfl ?_; first | (apply Gt.move; refine ⟨_, Qs.move (ao rfl), ?_⟩) | (apply Gt.assign; refine ⟨_, Qs.assign (ao rfl), ?_⟩) | (apply Gt.load; refine ⟨_, Qs.ldD1 (ao rfl) rfl (tab_of rfl) rfl rfl, ?_⟩) | (apply Gt.fieldAddr; refine ⟨_, Qs.fldP (ao rfl) (tab_of rfl) rfl (tab_of rfl) rfl, ?_⟩) | (apply Gt.un; refine ⟨_, Qs.not (ao rfl), ?_⟩) | (apply Gt.pick; first | refine ⟨_, Qs.pickT (ao rfl) (ao rfl), ?_⟩ | refine ⟨_, Qs.pickF (ao rfl) (ao rfl), ?_⟩) | (apply Gt.callv; refine ⟨_, Qs.call (ao rfl) (Rcompared_abs m' m) (by first | ((repeat (first | exact ArgsLe.nil | refine ArgsLe.cons rfl (D.le.refl _) ?_ | refine ArgsLe.cons rfl D.le_nil ?_)); done) | fail), ?_⟩)) | refine AWs.sG rfl rfl rfl rfl rfl ?_ | (refine AWs.qG rfl rfl rfl rfl rfl ?_; first | (apply Gt.load; refine ⟨_, Qs.ldD1 (ao rfl) rfl (tab_of rfl) rfl rfl, ?_⟩) | (apply Gt.fieldAddr; refine ⟨_, Qs.fldP (ao rfl) (tab_of rfl) rfl (tab_of rfl) rfl, ?_⟩) | (apply Gt.un; refine ⟨_, Qs.not (ao rfl), ?_⟩)) | apply AWl.nil | apply AThen.normal | apply AWp.skip | apply AWp.ret | apply AThen.ret | (apply Gc.cond; first | refine AWp.condT (ao rfl) ?_ | refine AWp.condF (ao rfl) ?_))
  exact Fin.ret (Rets.of1 (ResV.tmp rfl rfl) (D.le.refl _))
theorem cmpN_sign (x y : Nat) : cmpN x y = ((x : Int) - y).sign := by
 unfold cmpN
 rcases Nat.lt_trichotomy x y with h | h | h
 ·rw [if_pos h, Int.sign_eq_neg_one_of_neg (by omega)]
 ·subst h; simp
 ·rw [if_neg (by omega), if_pos h, Int.sign_eq_one_of_pos (by omega)]
theorem cmpS_sign (x y : Int) : cmpS (decide (x < 0)) x.natAbs (decide (y < 0)) y.natAbs = (x - y).sign := by
 by_cases hx : x < 0 <;> by_cases hy : y < 0
 ·rw [decide_eq_true hx, decide_eq_true hy]
  show cmpN _ _ = _
  rw [cmpN_sign]; congr 1; omega
 ·rw [decide_eq_true hx, decide_eq_false hy]
  show (-1 : Int) = _
  rw [Int.sign_eq_neg_one_of_neg (by omega)]
 ·rw [decide_eq_false hx, decide_eq_true hy]
  show (1 : Int) = _
  rw [Int.sign_eq_one_of_pos (by omega)]
 ·rw [decide_eq_false hx, decide_eq_false hy]
  show cmpN _ _ = _
  rw [cmpN_sign]; congr 1; omega
theorem RiCmp_abs (x y : Int) : Abs Tryz.prog 89 [agD (intC x), agD (intC y)] (ex (.int .i64 (x - y).sign)) := by
 rw [← cmpS_sign]
 exact RiCmp_raw _ _ _ _
end Go.Proofs.YteicdddphdomkaaGreat
namespace Go.Proofs.YteicdddphdomkaaGreat
open Go.RowKit
set_option maxRecDepth 100000
theorem sign_one {g : Nat} (h : 0 < g) : (((g : Int) - 1).sign == 0) = decide (g = 1) := by
 by_cases h1 : g = 1
 ·subst h1; rfl
 ·rw [decide_eq_false h1, Int.sign_eq_one_of_pos (by omega)]; rfl
open Classical in
theorem RrValid_abs (b : Bool) (l : List Nat) (b' : Bool) (l' : List Nat) (hs : Small l) (hs' : Small l') (hn : l.length ≤ 1000000000) (hn' : l'.length ≤ 1000000000) : Abs Tryz.prog 28 [agD (rawC b l b' l')] (ex (.bool (decide (QOk b l b' l')))) := by
 have c1 := RiValid_abs b l hn
 have c2 := RiValid_abs b' l' hn'
 cases h1 : intOk b l with
 | false =>
  have hq : ¬ QOk b l b' l' := fun h => by rw [(QOk_ok h).1] at h1; cases h1
  rw [h1] at c1
  rw [decide_eq_false hq]
  refine Abs.intro Tryz.func28 rfl (callFunc_run Tryz.func28 (by kernel_rfl) (by kernel_rfl)) rfl fun s0 => ?_
  rw [Tryz.ntmps28]
  repeat (first | apply AWp.seq | apply AWp.region | (apply Ga.box; refine AWs.bx (ao rfl) rfl rfl rfl rfl ?_) | (refine AWs.q rfl rfl ?_; first | (apply Gt.move; refine ⟨_, Qs.move (ao rfl), ?_⟩) | (apply Gt.assign; refine ⟨_, Qs.assign (ao rfl), ?_⟩) | (apply Gt.load; refine ⟨_, Qs.ldD (ao rfl) rfl (tab_of rfl) rfl rfl, ?_⟩) | (apply Gt.fieldAddr; refine ⟨_, Qs.fldP (ao rfl) (tab_of rfl) rfl (tab_of rfl) rfl, ?_⟩) | (apply Gt.un; refine ⟨_, Qs.not (ao rfl), ?_⟩) | (apply Gt.pick; refine ⟨_, Qs.pickT (ao rfl) (ao rfl), ?_⟩) | (apply Gt.callv; refine ⟨_, Qs.call (ao rfl) (c1) (by first | ((repeat (first | exact ArgsLe.nil | refine ArgsLe.cons rfl (D.le.refl _) ?_ | refine ArgsLe.cons rfl D.le_nil ?_)); done) | fail), ?_⟩)) | refine AWs.sG rfl rfl rfl rfl rfl ?_ | apply AWl.nil | apply AThen.normal | apply AWp.ret | apply AThen.ret | (apply Gc.cond; refine AWp.condT (ao rfl) ?_))
  exact Fin.ret (Rets.of1 (ResV.tmp rfl rfl) (D.le.refl _))
 | true =>
  rw [h1] at c1
  cases h2 : intOk b' l' with
  | false =>
   have hq : ¬ QOk b l b' l' := fun h => by rw [(QOk_ok h).2] at h2; cases h2
   rw [h2] at c2
   rw [decide_eq_false hq]
   refine Abs.intro Tryz.func28 rfl (callFunc_run Tryz.func28 (by kernel_rfl) (by kernel_rfl)) rfl fun s0 => ?_
   rw [Tryz.ntmps28]
   repeat (first | apply AWp.seq | apply AWp.region | (apply Ga.box; refine AWs.bx (ao rfl) rfl rfl rfl rfl ?_) | (refine AWs.q rfl rfl ?_; first | (apply Gt.move; refine ⟨_, Qs.move (ao rfl), ?_⟩) | (apply Gt.assign; refine ⟨_, Qs.assign (ao rfl), ?_⟩) | (apply Gt.load; refine ⟨_, Qs.ldD (ao rfl) rfl (tab_of rfl) rfl rfl, ?_⟩) | (apply Gt.fieldAddr; refine ⟨_, Qs.fldP (ao rfl) (tab_of rfl) rfl (tab_of rfl) rfl, ?_⟩) | (apply Gt.un; refine ⟨_, Qs.not (ao rfl), ?_⟩) | (apply Gt.pick; first | refine ⟨_, Qs.pickT (ao rfl) (ao rfl), ?_⟩ | refine ⟨_, Qs.pickF (ao rfl) (ao rfl), ?_⟩) | (apply Gt.callv; refine ⟨_, Qs.call (ao rfl) (c1) (by first | ((repeat (first | exact ArgsLe.nil | refine ArgsLe.cons rfl (D.le.refl _) ?_ | refine ArgsLe.cons rfl D.le_nil ?_)); done) | fail), ?_⟩)) | refine AWs.sG rfl rfl rfl rfl rfl ?_ | (refine AWs.qG rfl rfl rfl rfl rfl ?_; first | (apply Gt.load; refine ⟨_, Qs.ldD (ao rfl) rfl (tab_of rfl) rfl rfl, ?_⟩) | (apply Gt.fieldAddr; refine ⟨_, Qs.fldP (ao rfl) (tab_of rfl) rfl (tab_of rfl) rfl, ?_⟩) | (apply Gt.un; refine ⟨_, Qs.not (ao rfl), ?_⟩) | (apply Gt.callv; refine ⟨_, Qs.call (ao rfl) (c2) (by first | ((repeat (first | exact ArgsLe.nil | refine ArgsLe.cons rfl (D.le.refl _) ?_ | refine ArgsLe.cons rfl D.le_nil ?_)); done) | fail), ?_⟩)) | apply AWl.nil | apply AThen.normal | apply AWp.ret | apply AThen.ret | (apply Gc.cond; refine AWp.condT (ao rfl) ?_))
   exact Fin.ret (Rets.of1 (ResV.tmp rfl rfl) (D.le.refl _))
  | true =>
   rw [h2] at c2
   obtain ⟨x, rfl, rfl⟩ := intOk_int hs h1
   obtain ⟨y, rfl, rfl⟩ := intOk_int hs' h2
   by_cases hy : 0 < y
   ·have hsg : y.sign = 1 := Int.sign_eq_one_of_pos hy
    have hg : decide (QOk (decide (x < 0)) (digs x.natAbs) (decide (y < 0)) (digs y.natAbs)) = ((((Nat.gcd x.natAbs y.natAbs : Nat) : Int) - 1).sign == 0) := by
     have hpos : 0 < Nat.gcd x.natAbs y.natAbs := Nat.gcd_pos_of_pos_right _ (by omega)
     rw [sign_one hpos]
     exact decide_eq_decide.2 ((QOk_int x y).trans ⟨fun h => h.2, fun h => ⟨hy, h⟩⟩)
    rw [hg]
    refine Abs.intro Tryz.func28 rfl (callFunc_run Tryz.func28 (by kernel_rfl) (by kernel_rfl)) rfl fun s0 => ?_
    rw [Tryz.ntmps28]
    repeat (first | apply AWp.seq | apply AWp.region | (apply Ga.box; refine AWs.bx (ao rfl) rfl rfl rfl rfl ?_) | (refine AWs.q rfl rfl ?_; first | (apply Gt.move; refine ⟨_, Qs.move (ao rfl), ?_⟩) | (apply Gt.assign; refine ⟨_, Qs.assign (ao rfl), ?_⟩) | (apply Gt.load; refine ⟨_, Qs.ldD (ao rfl) rfl (tab_of rfl) rfl rfl, ?_⟩) | (apply Gt.fieldAddr; refine ⟨_, Qs.fldP (ao rfl) (tab_of rfl) rfl (tab_of rfl) rfl, ?_⟩) | (apply Gt.bin; refine ⟨_, Qs.cmp (ao rfl) (ao rfl) rfl, ?_⟩) | (apply Gt.un; refine ⟨_, Qs.not (ao rfl), ?_⟩) | (apply Gt.pick; refine ⟨_, Qs.pickF (ao rfl) (ao rfl), ?_⟩) | (apply Gt.callv; first | refine ⟨_, Qs.call (ao rfl) (c1) (by first | ((repeat (first | exact ArgsLe.nil | refine ArgsLe.cons rfl (D.le.refl _) ?_ | refine ArgsLe.cons rfl D.le_nil ?_)); done) | fail), ?_⟩ | refine ⟨_, Qs.call (ao rfl) (Rgcd_abs x y (by omega) (by omega)) (by first | ((repeat (first | exact ArgsLe.nil | refine ArgsLe.cons rfl (D.le.refl _) ?_ | refine ArgsLe.cons rfl D.le_nil ?_)); done) | fail), ?_⟩ | refine ⟨_, Qs.call (ao rfl) (Rof_abs 1 (by omega) (by omega)) (by first | ((repeat (first | exact ArgsLe.nil | refine ArgsLe.cons rfl (D.le.refl _) ?_ | refine ArgsLe.cons rfl D.le_nil ?_)); done) | fail), ?_⟩ | refine ⟨_, Qs.call (ao rfl) (RiCmp_abs (Nat.gcd x.natAbs y.natAbs : Nat) 1) (by first | ((repeat (first | exact ArgsLe.nil | refine ArgsLe.cons rfl (D.le.refl _) ?_ | refine ArgsLe.cons rfl D.le_nil ?_)); done) | fail), ?_⟩)) | (refine AWs.qG rfl rfl rfl rfl rfl ?_; first | (apply Gt.load; refine ⟨_, Qs.ldD (ao rfl) rfl (tab_of rfl) rfl rfl, ?_⟩) | (apply Gt.fieldAddr; refine ⟨_, Qs.fldP (ao rfl) (tab_of rfl) rfl (tab_of rfl) rfl, ?_⟩) | (apply Gt.bin; refine ⟨_, Qs.cmpF rfl (ao rfl) (ao rfl) (by first | (simp only [cmpP, List.length_cons, List.length_nil]; omega) | (simp [cmpP]; done) | (simp [cmpP]; omega)), ?_⟩) | (apply Gt.un; refine ⟨_, Qs.not (ao rfl), ?_⟩) | (apply Gt.callv; first | refine ⟨_, Qs.call (ao rfl) (c2) (by first | ((repeat (first | exact ArgsLe.nil | refine ArgsLe.cons rfl (D.le.refl _) ?_ | refine ArgsLe.cons rfl D.le_nil ?_)); done) | fail), ?_⟩ | refine ⟨_, Qs.call (ao rfl) (ISign_abs y) (by first | ((repeat (first | exact ArgsLe.nil | refine ArgsLe.cons rfl (D.le.refl _) ?_ | refine ArgsLe.cons rfl D.le_nil ?_)); done) | fail), ?_⟩)) | apply AWl.nil | apply AThen.normal | apply AWp.skip | apply AWp.ret | (apply Gc.cond; refine AWp.condF (ao rfl) ?_))
    exact Fin.ret (Rets.of1 (ResV.tmp rfl rfl) (D.le.refl _))
   ·have hsg : y.sign ≤ 0 := Int.sign_nonpos_iff.2 (by omega)
    rw [decide_eq_false fun h => hy ((QOk_int x y).1 h).1]
    refine Abs.intro Tryz.func28 rfl (callFunc_run Tryz.func28 (by kernel_rfl) (by kernel_rfl)) rfl fun s0 => ?_
    rw [Tryz.ntmps28]
    repeat (first | apply AWp.seq | apply AWp.region | (apply Ga.box; refine AWs.bx (ao rfl) rfl rfl rfl rfl ?_) | (refine AWs.q rfl rfl ?_; first | (apply Gt.move; refine ⟨_, Qs.move (ao rfl), ?_⟩) | (apply Gt.assign; refine ⟨_, Qs.assign (ao rfl), ?_⟩) | (apply Gt.load; refine ⟨_, Qs.ldD (ao rfl) rfl (tab_of rfl) rfl rfl, ?_⟩) | (apply Gt.fieldAddr; refine ⟨_, Qs.fldP (ao rfl) (tab_of rfl) rfl (tab_of rfl) rfl, ?_⟩) | (apply Gt.un; refine ⟨_, Qs.not (ao rfl), ?_⟩) | (apply Gt.pick; refine ⟨_, Qs.pickF (ao rfl) (ao rfl), ?_⟩) | (apply Gt.callv; refine ⟨_, Qs.call (ao rfl) (c1) (by first | ((repeat (first | exact ArgsLe.nil | refine ArgsLe.cons rfl (D.le.refl _) ?_ | refine ArgsLe.cons rfl D.le_nil ?_)); done) | fail), ?_⟩)) | (refine AWs.qG rfl rfl rfl rfl rfl ?_; first | (apply Gt.load; refine ⟨_, Qs.ldD (ao rfl) rfl (tab_of rfl) rfl rfl, ?_⟩) | (apply Gt.fieldAddr; refine ⟨_, Qs.fldP (ao rfl) (tab_of rfl) rfl (tab_of rfl) rfl, ?_⟩) | (apply Gt.bin; refine ⟨_, Qs.cmpT rfl (ao rfl) (ao rfl) (by first | (simp only [cmpP, List.length_cons, List.length_nil]; omega) | (simp [cmpP]; done) | (simp [cmpP]; omega)), ?_⟩) | (apply Gt.un; refine ⟨_, Qs.not (ao rfl), ?_⟩) | (apply Gt.callv; first | refine ⟨_, Qs.call (ao rfl) (c2) (by first | ((repeat (first | exact ArgsLe.nil | refine ArgsLe.cons rfl (D.le.refl _) ?_ | refine ArgsLe.cons rfl D.le_nil ?_)); done) | fail), ?_⟩ | refine ⟨_, Qs.call (ao rfl) (ISign_abs y) (by first | ((repeat (first | exact ArgsLe.nil | refine ArgsLe.cons rfl (D.le.refl _) ?_ | refine ArgsLe.cons rfl D.le_nil ?_)); done) | fail), ?_⟩)) | apply AWl.nil | apply AThen.normal | apply AWp.ret | apply AThen.ret | (apply Gc.cond; refine AWp.condT (ao rfl) ?_))
    exact Fin.ret (Rets.of1 (ResV.tmp rfl rfl) (D.le.refl _))
structure RTm where
 b : Bool
 l : List Nat
 b' : Bool
 l' : List Nat
 m : Nat → Int
instance : Inhabited RTm := ⟨⟨false, [], false, [], fun _ => 0⟩⟩
def rtC (r : RTm) : List D := rawC r.b r.l r.b' r.l' ++ monC r.m
def rtD (L : List RTm) : D := slD 33 12 (L.map rtC)
def rtAt (L : List RTm) (k : Nat) : RTm := L.getD k default
def tOk (r : RTm) : Prop := QOk r.b r.l r.b' r.l' ∧ r.l ≠ [] ∧ In8 r.m 0 65535
def ValidL (L : List RTm) : Prop := ∀ k, k < L.length → tOk (rtAt L k) ∧ (0 < k → 0 < lex8 (rtAt L (k - 1)).m (rtAt L k).m)
def rtSz (L : List RTm) : Prop := ∀ r ∈ L, Small r.l ∧ Small r.l' ∧ r.l.length ≤ 1000000000 ∧ r.l'.length ≤ 1000000000
theorem rtAt_mem {L : List RTm} {k : Nat} (h : k < L.length) : rtAt L k ∈ L := by
 unfold rtAt
 rw [List.getD_eq_getElem?_getD, List.getElem?_eq_getElem h]
 exact List.getElem_mem h
open Classical in
theorem PValid_abs (L : List RTm) (hz : rtSz L) (hn : L.length ≤ 1000000) : Abs Tryz.prog 14 [rtD L] (ex (.bool (decide (ValidL L)))) := by
 refine Abs.intro Tryz.func14 rfl (callFunc_run Tryz.func14 (by kernel_rfl) (by kernel_rfl)) rfl fun s0 => ?_
 rw [Tryz.ntmps14]
 repeat (first | apply AWp.seq | apply AWp.region | (refine AWs.q rfl rfl ?_; first | (apply Gt.move; refine ⟨_, Qs.move (ao rfl), ?_⟩) | (apply Gt.assign; refine ⟨_, Qs.assign (ao rfl), ?_⟩) | (apply Gt.len; refine ⟨_, Qs.lenN rfl (tab_of rfl), ?_⟩)) | apply AWl.nil | apply AThen.normal | apply AWp.block)
 refine AWp.loop (fun mz σ => ∃ k, k ≤ L.length ∧ mz = L.length - k ∧ (∀ j, j < k → tOk (rtAt L j) ∧ (0 < j → 0 < lex8 (rtAt L (j - 1)).m (rtAt L j).m)) ∧ σ = ⟨[(0, .d (rtD L)), (5, .d (rtD L)), (6, .d (ex (.int .i64 (L.length : Nat)))), (7, .d (ex (.int .i64 (k : Nat))))], []⟩) ?le ⟨0, by omega, rfl, fun j hj => absurd hj (Nat.not_lt_zero j), rfl⟩ ?round
 case le => exact AS.le_of (by repeat (first | exact FrLe.nil | refine FrLe.cons rfl (AVle.d rfl) ?_)) (by repeat (exact HpLe.nil))
 case round =>
  rintro mz _ ⟨k, hk, rfl, hall, rfl⟩
  by_cases hlt : k < L.length
  ·obtain ⟨z1, z2, z3, z4⟩ := hz _ (rtAt_mem hlt)
   have c1 := rValid_abs (rtAt L k).b (rtAt L k).l (rtAt L k).b' (rtAt L k).l' z1 z2 z3 z4
   by_cases hq : QOk (rtAt L k).b (rtAt L k).l (rtAt L k).b' (rtAt L k).l'
   ·rw [decide_eq_true hq] at c1
    obtain ⟨q, q1, q2, q3, q4⟩ := id hq
    have c2 := Sign_abs q
    have hcc : ratC q = rawC (rtAt L k).b (rtAt L k).l (rtAt L k).b' (rtAt L k).l' := by rw [q1, q2, q3, q4]; rfl
    rw [hcc] at c2
    by_cases hz0 : q = 0
    ·have hs := num_sign0.2 hz0
     have hno : ¬ ValidL L := fun h => (h k hlt).1.2.1 (by rw [q2, hz0]; exact digs_zero)
     rw [decide_eq_false hno]
     repeat (first | apply AWp.seq | apply AWp.region | (apply Ga.alloc; refine AWs.al (tab_of rfl) rfl rfl rfl rfl rfl rfl ?_) | (apply Ga.store; refine AWs.stF (ao rfl) (ao rfl) rfl (tab_of rfl) rfl rfl rfl ?_) | (refine AWs.q rfl rfl ?_; first | (apply Gt.move; refine ⟨_, Qs.move (ao rfl), ?_⟩) | (apply Gt.assign; refine ⟨_, Qs.assign (ao rfl), ?_⟩) | (apply Gt.load; first | refine ⟨_, Qs.ldD (ao rfl) rfl (tab_of rfl) rfl rfl, ?_⟩ | refine ⟨_, Qs.loadEf (ao rfl) (tab_of rfl) rfl rfl, ?_⟩) | (apply Gt.fieldAddr; refine ⟨_, Qs.fldP (ao rfl) (tab_of rfl) rfl (tab_of rfl) rfl, ?_⟩) | (apply Gt.indexAddr; refine ⟨_, Qs.indexN rfl (ao rfl) (tab_of rfl) (tab_of rfl) rfl (by first | omega | (simp; omega)), ?_⟩) | (apply Gt.bin; refine ⟨_, Qs.cmpT rfl (ao rfl) (ao rfl) (by first | (simp only [cmpP, List.length_cons, List.length_nil]; omega) | (simp [cmpP]; done) | (simp [cmpP]; omega)), ?_⟩) | (apply Gt.un; refine ⟨_, Qs.not (ao rfl), ?_⟩) | (apply Gt.pick; first | refine ⟨_, Qs.pickT (ao rfl) (ao rfl), ?_⟩ | refine ⟨_, Qs.pickF (ao rfl) (ao rfl), ?_⟩) | (apply Gt.callv; refine ⟨_, Qs.call (ao rfl) (c1) (by first | ((repeat (first | exact ArgsLe.nil | refine ArgsLe.cons rfl (D.le.refl _) ?_ | refine ArgsLe.cons rfl D.le_nil ?_)); done) | fail), ?_⟩)) | refine AWs.sG rfl rfl rfl rfl rfl ?_ | (refine AWs.qG rfl rfl rfl rfl rfl ?_; first | (apply Gt.load; refine ⟨_, Qs.ldD (ao rfl) rfl (tab_of rfl) rfl rfl, ?_⟩) | (apply Gt.fieldAddr; refine ⟨_, Qs.fldP (ao rfl) (tab_of rfl) rfl (tab_of rfl) rfl, ?_⟩) | (apply Gt.bin; refine ⟨_, Qs.cmpT rfl (ao rfl) (ao rfl) (by first | (simp only [cmpP, List.length_cons, List.length_nil]; omega) | (simp [cmpP]; done) | (simp [cmpP]; omega)), ?_⟩) | (apply Gt.callv; refine ⟨_, Qs.call (ao rfl) (c2) (by first | ((repeat (first | exact ArgsLe.nil | refine ArgsLe.cons rfl (D.le.refl _) ?_ | refine ArgsLe.cons rfl D.le_nil ?_)); done) | fail), ?_⟩)) | apply AWl.nil | apply AThen.normal | apply AWp.block | apply AWp.skip | apply AWp.ret | apply AThen.ret | apply ABlock.ret | apply ALoop.ret | (apply Gc.cond; refine AWp.condT (ao rfl) ?_))
     exact Fin.ret (Rets.of1 (ResV.tmp rfl rfl) (D.le.refl _))
    ·have hs : q.num.sign ≠ 0 := fun e => hz0 (num_sign0.1 e)
     by_cases hm : In8 (rtAt L k).m 0 65535
     ·have htk : tOk (rtAt L k) := ⟨hq, fun e => by rw [q2] at e; have := digs_length_zero.1 (by rw [e]; rfl); exact rnum_ne hz0 (by omega), hm⟩
      rcases Nat.eq_zero_or_pos k with h0 | h0
      ·subst h0
       repeat (first | apply AWp.seq | apply AWp.region | (apply Ga.alloc; refine AWs.al (tab_of rfl) rfl rfl rfl rfl rfl rfl ?_) | (apply Ga.store; refine AWs.stF (ao rfl) (ao rfl) rfl (tab_of rfl) rfl rfl rfl ?_) | (refine AWs.q rfl rfl ?_; first | (apply Gt.move; refine ⟨_, Qs.move (ao rfl), ?_⟩) | (apply Gt.assign; refine ⟨_, Qs.assign (ao rfl), ?_⟩) | (apply Gt.load; first | refine ⟨_, Qs.ldD (ao rfl) rfl (tab_of rfl) rfl rfl, ?_⟩ | refine ⟨_, Qs.loadEf (ao rfl) (tab_of rfl) rfl rfl, ?_⟩) | (apply Gt.fieldAddr; refine ⟨_, Qs.fldP (ao rfl) (tab_of rfl) rfl (tab_of rfl) rfl, ?_⟩) | (apply Gt.indexAddr; refine ⟨_, Qs.indexN rfl (ao rfl) (tab_of rfl) (tab_of rfl) rfl (by first | omega | (simp; omega)), ?_⟩) | (apply Gt.bin; refine ⟨_, Qs.cmpT rfl (ao rfl) (ao rfl) (by first | (simp only [cmpP, List.length_cons, List.length_nil]; omega) | (simp [cmpP]; done) | (simp [cmpP]; omega)), ?_⟩) | (apply Gt.un; refine ⟨_, Qs.not (ao rfl), ?_⟩) | (apply Gt.pick; refine ⟨_, Qs.pickF (ao rfl) (ao rfl), ?_⟩) | (apply Gt.callv; refine ⟨_, Qs.call (ao rfl) (c1) (by first | ((repeat (first | exact ArgsLe.nil | refine ArgsLe.cons rfl (D.le.refl _) ?_ | refine ArgsLe.cons rfl D.le_nil ?_)); done) | fail), ?_⟩)) | (refine AWs.qG rfl rfl rfl rfl rfl ?_; first | (apply Gt.load; refine ⟨_, Qs.ldD (ao rfl) rfl (tab_of rfl) rfl rfl, ?_⟩) | (apply Gt.fieldAddr; refine ⟨_, Qs.fldP (ao rfl) (tab_of rfl) rfl (tab_of rfl) rfl, ?_⟩) | (apply Gt.bin; refine ⟨_, Qs.cmpF rfl (ao rfl) (ao rfl) (by first | (simp only [cmpP, List.length_cons, List.length_nil]; omega) | (simp [cmpP]; done) | (simp [cmpP]; omega)), ?_⟩) | (apply Gt.un; refine ⟨_, Qs.not (ao rfl), ?_⟩) | (apply Gt.callv; first | refine ⟨_, Qs.call (ao rfl) (c2) (by first | ((repeat (first | exact ArgsLe.nil | refine ArgsLe.cons rfl (D.le.refl _) ?_ | refine ArgsLe.cons rfl D.le_nil ?_)); done) | fail), ?_⟩ | refine ⟨_, Qs.call (ao rfl) (mValidT_abs (rtAt L 0).m hm) (by first | ((repeat (first | exact ArgsLe.nil | refine ArgsLe.cons rfl (D.le.refl _) ?_ | refine ArgsLe.cons rfl D.le_nil ?_)); done) | fail), ?_⟩)) | apply AWl.nil | apply AThen.normal | apply AWp.block | apply AWp.skip | (apply Gc.cond; first | refine AWp.condT (ao rfl) ?_ | refine AWp.condF (ao rfl) ?_))
       refine AWp.dr' (DrawOk.self (by kernel_rfl)) [[], [(28, 0)], [(29, 1)], [], [], [(32, 4)], [(31, 3), (33, 5)], [(34, 6)], [(35, 7)], [], [(37, 9)], [(36, 8), (38, 10)], [(39, 11)], [(30, 2), (40, 12)]] [[], [0], [0, 1], [0, 1, 2], [0, 1, 2], [0, 1, 2, 4], [0, 1, 2, 3, 4, 5], [0, 1, 2, 3, 4, 5, 6], [0, 1, 2, 3, 4, 5, 6, 7], [0, 1, 2], [0, 1, 2, 9], [0, 1, 2, 3, 4, 5, 6, 7, 8, 9, 10], [0, 1, 2, 3, 4, 5, 6, 7, 8, 9, 10, 11], [0, 1, 2, 3, 4, 5, 6, 7, 8, 9, 10, 11, 12]] rfl (by kernel_rfl) (by kernel_rfl) (by kernel_rfl) ?_
       repeat (first | refine ⟨_, rfl, ?_⟩ | (apply Gh.move; (refine ⟨_, HStep.q rfl (Qs.move (ah rfl)), ?_⟩; refine ⟨_, rfl, ?_⟩)) | (apply Gh.bin; (refine ⟨_, HStep.q rfl (Qs.cmpF rfl (ah rfl) (ah rfl) (by first | (simp only [cmpP, List.length_cons, List.length_nil]; omega) | (simp [cmpP]; done) | (simp [cmpP]; omega))), ?_⟩; refine ⟨_, rfl, ?_⟩)) | (apply Gh.pick; (refine ⟨_, HStep.q rfl (Qs.pickF (ah rfl) (ah rfl)), ?_⟩; refine ⟨_, rfl, ?_⟩)) | (refine ⟨_, HStep.gF rfl rfl rfl, ?_⟩; refine ⟨_, rfl, ?_⟩))
       repeat (first | apply AWp.region | (refine AWs.q rfl rfl ?_; first | (apply Gt.move; refine ⟨_, Qs.move (ao rfl), ?_⟩) | (apply Gt.add; refine ⟨_, Qs.succ (ao rfl) (ao rfl) (by omega), ?_⟩)) | apply AWl.nil | apply AThen.normal | apply AWp.skip | apply ABlock.normal | (apply Gc.cond; refine AWp.condF (ao rfl) ?_))
       refine ALoop.next (L.length - 1) (by omega) ⟨1, by omega, rfl, fun j hj => by obtain rfl : j = 0 := (by omega); exact ⟨htk, fun h => absurd h (Nat.lt_irrefl _)⟩, rfl⟩ ?_
       exact AS.le_of (by repeat (first | exact FrLe.nil | refine FrLe.cons rfl (AVle.d rfl) ?_)) (by repeat (exact HpLe.nil))
      ·by_cases hc : 0 < lex8 (rtAt L (k - 1)).m (rtAt L k).m
       ·repeat (first | apply AWp.seq | apply AWp.region | (apply Ga.alloc; refine AWs.al (tab_of rfl) rfl rfl rfl rfl rfl rfl ?_) | (apply Ga.store; refine AWs.stF (ao rfl) (ao rfl) rfl (tab_of rfl) rfl rfl rfl ?_) | (refine AWs.q rfl rfl ?_; first | (apply Gt.move; refine ⟨_, Qs.move (ao rfl), ?_⟩) | (apply Gt.assign; refine ⟨_, Qs.assign (ao rfl), ?_⟩) | (apply Gt.load; first | refine ⟨_, Qs.ldD (ao rfl) rfl (tab_of rfl) rfl rfl, ?_⟩ | refine ⟨_, Qs.loadEf (ao rfl) (tab_of rfl) rfl rfl, ?_⟩) | (apply Gt.fieldAddr; refine ⟨_, Qs.fldP (ao rfl) (tab_of rfl) rfl (tab_of rfl) rfl, ?_⟩) | (apply Gt.indexAddr; refine ⟨_, Qs.indexN rfl (ao rfl) (tab_of rfl) (tab_of rfl) rfl (by first | omega | (simp; omega)), ?_⟩) | (apply Gt.bin; refine ⟨_, Qs.cmpT rfl (ao rfl) (ao rfl) (by first | (simp only [cmpP, List.length_cons, List.length_nil]; omega) | (simp [cmpP]; done) | (simp [cmpP]; omega)), ?_⟩) | (apply Gt.un; refine ⟨_, Qs.not (ao rfl), ?_⟩) | (apply Gt.pick; refine ⟨_, Qs.pickF (ao rfl) (ao rfl), ?_⟩) | (apply Gt.callv; refine ⟨_, Qs.call (ao rfl) (c1) (by first | ((repeat (first | exact ArgsLe.nil | refine ArgsLe.cons rfl (D.le.refl _) ?_ | refine ArgsLe.cons rfl D.le_nil ?_)); done) | fail), ?_⟩)) | (refine AWs.qG rfl rfl rfl rfl rfl ?_; first | (apply Gt.load; refine ⟨_, Qs.ldD (ao rfl) rfl (tab_of rfl) rfl rfl, ?_⟩) | (apply Gt.fieldAddr; refine ⟨_, Qs.fldP (ao rfl) (tab_of rfl) rfl (tab_of rfl) rfl, ?_⟩) | (apply Gt.bin; refine ⟨_, Qs.cmpF rfl (ao rfl) (ao rfl) (by first | (simp only [cmpP, List.length_cons, List.length_nil]; omega) | (simp [cmpP]; done) | (simp [cmpP]; omega)), ?_⟩) | (apply Gt.un; refine ⟨_, Qs.not (ao rfl), ?_⟩) | (apply Gt.callv; first | refine ⟨_, Qs.call (ao rfl) (c2) (by first | ((repeat (first | exact ArgsLe.nil | refine ArgsLe.cons rfl (D.le.refl _) ?_ | refine ArgsLe.cons rfl D.le_nil ?_)); done) | fail), ?_⟩ | refine ⟨_, Qs.call (ao rfl) (mValidT_abs (rtAt L k).m hm) (by first | ((repeat (first | exact ArgsLe.nil | refine ArgsLe.cons rfl (D.le.refl _) ?_ | refine ArgsLe.cons rfl D.le_nil ?_)); done) | fail), ?_⟩)) | apply AWl.nil | apply AThen.normal | apply AWp.block | apply AWp.skip | (apply Gc.cond; first | refine AWp.condT (ao rfl) ?_ | refine AWp.condF (ao rfl) ?_))
        refine AWp.dr' (DrawOk.self (by kernel_rfl)) [[], [(28, 0)], [(29, 1)], [], [], [(32, 4)], [(31, 3), (33, 5)], [(34, 6)], [(35, 7)], [], [(37, 9)], [(36, 8), (38, 10)], [(39, 11)], [(30, 2), (40, 12)]] [[], [0], [0, 1], [0, 1, 2], [0, 1, 2], [0, 1, 2, 4], [0, 1, 2, 3, 4, 5], [0, 1, 2, 3, 4, 5, 6], [0, 1, 2, 3, 4, 5, 6, 7], [0, 1, 2], [0, 1, 2, 9], [0, 1, 2, 3, 4, 5, 6, 7, 8, 9, 10], [0, 1, 2, 3, 4, 5, 6, 7, 8, 9, 10, 11], [0, 1, 2, 3, 4, 5, 6, 7, 8, 9, 10, 11, 12]] rfl (by kernel_rfl) (by kernel_rfl) (by kernel_rfl) ?_
        repeat (first | refine ⟨_, rfl, ?_⟩ | (apply Gh.move; (refine ⟨_, HStep.q rfl (Qs.move (ah rfl)), ?_⟩; refine ⟨_, rfl, ?_⟩)) | (apply Gh.bin; (refine ⟨_, HStep.q rfl (Qs.cmpT rfl (ah rfl) (ah rfl) (by first | (simp only [cmpP, List.length_cons, List.length_nil]; omega) | (simp [cmpP]; done) | (simp [cmpP]; omega))), ?_⟩; refine ⟨_, rfl, ?_⟩)) | (apply Gh.pick; (refine ⟨_, HStep.q rfl (Qs.pickT (ah rfl) (ah rfl)), ?_⟩; refine ⟨_, rfl, ?_⟩)) | (apply Gh.move; (refine ⟨_, HStep.gT rfl rfl (Qs.move (ah rfl)), ?_⟩; refine ⟨_, rfl, ?_⟩)) | (apply Gh.load; first | (refine ⟨_, HStep.gT rfl rfl (Qs.ldD (ah rfl) rfl (tab_of rfl) rfl rfl), ?_⟩; refine ⟨_, rfl, ?_⟩) | (refine ⟨_, HStep.gT rfl rfl (Qs.loadEf (ah rfl) (tab_of rfl) rfl rfl), ?_⟩; refine ⟨_, rfl, ?_⟩)) | (apply Gh.fieldAddr; first | (refine ⟨_, HStep.gT rfl rfl (Qs.fldE (ah rfl) (tab_of rfl) rfl (tab_of rfl) rfl rfl), ?_⟩; refine ⟨_, rfl, ?_⟩) | (refine ⟨_, HStep.gT rfl rfl (Qs.fldP (ah rfl) (tab_of rfl) rfl (tab_of rfl) rfl), ?_⟩; refine ⟨_, rfl, ?_⟩)) | (apply Gh.indexAddr; (refine ⟨_, HStep.gT rfl rfl (Qs.indexN rfl (ah rfl) (tab_of rfl) (tab_of rfl) rfl (by first | omega | (simp; omega))), ?_⟩; refine ⟨_, rfl, ?_⟩)) | (apply Gh.sub; (refine ⟨_, HStep.gT rfl rfl (Qs.pred (ah rfl) (ah rfl) (by omega) (by omega)), ?_⟩; refine ⟨_, rfl, ?_⟩)) | (apply Gh.bin; (refine ⟨_, HStep.gT rfl rfl (Qs.cmpF rfl (ah rfl) (ah rfl) (by first | (simp only [cmpP, List.length_cons, List.length_nil]; omega) | (simp [cmpP]; done) | (simp [cmpP]; omega))), ?_⟩; refine ⟨_, rfl, ?_⟩)) | (apply Gh.callv; (refine ⟨_, HStep.gT rfl rfl (Qs.call (ah rfl) (mCmp_abs (rtAt L (k - 1)).m (rtAt L k).m) (by first | ((repeat (first | exact ArgsLe.nil | refine ArgsLe.cons rfl (D.le.refl _) ?_ | refine ArgsLe.cons rfl D.le_nil ?_)); done) | fail)), ?_⟩; refine ⟨_, rfl, ?_⟩)))
        repeat (first | apply AWp.region | (refine AWs.q rfl rfl ?_; first | (apply Gt.move; refine ⟨_, Qs.move (ao rfl), ?_⟩) | (apply Gt.add; refine ⟨_, Qs.succ (ao rfl) (ao rfl) (by omega), ?_⟩)) | apply AWl.nil | apply AThen.normal | apply AWp.skip | apply ABlock.normal | (apply Gc.cond; refine AWp.condF (ao rfl) ?_))
        refine ALoop.next (L.length - (k + 1)) (by omega) ⟨k + 1, by omega, rfl, fun j hj => ?_, rfl⟩ ?_
        ·rcases Nat.lt_succ_iff_lt_or_eq.1 hj with h | rfl
         ·exact hall j h
         ·exact ⟨htk, fun _ => hc⟩
        ·exact AS.le_of (by repeat (first | exact FrLe.nil | refine FrLe.cons rfl (AVle.d rfl) ?_)) (by repeat (exact HpLe.nil))
       ·have hno : ¬ ValidL L := fun h => hc ((h k hlt).2 h0)
        rw [decide_eq_false hno]
        repeat (first | apply AWp.seq | apply AWp.region | (apply Ga.alloc; refine AWs.al (tab_of rfl) rfl rfl rfl rfl rfl rfl ?_) | (apply Ga.store; refine AWs.stF (ao rfl) (ao rfl) rfl (tab_of rfl) rfl rfl rfl ?_) | (refine AWs.q rfl rfl ?_; first | (apply Gt.move; refine ⟨_, Qs.move (ao rfl), ?_⟩) | (apply Gt.assign; refine ⟨_, Qs.assign (ao rfl), ?_⟩) | (apply Gt.load; first | refine ⟨_, Qs.ldD (ao rfl) rfl (tab_of rfl) rfl rfl, ?_⟩ | refine ⟨_, Qs.loadEf (ao rfl) (tab_of rfl) rfl rfl, ?_⟩) | (apply Gt.fieldAddr; refine ⟨_, Qs.fldP (ao rfl) (tab_of rfl) rfl (tab_of rfl) rfl, ?_⟩) | (apply Gt.indexAddr; refine ⟨_, Qs.indexN rfl (ao rfl) (tab_of rfl) (tab_of rfl) rfl (by first | omega | (simp; omega)), ?_⟩) | (apply Gt.bin; refine ⟨_, Qs.cmpT rfl (ao rfl) (ao rfl) (by first | (simp only [cmpP, List.length_cons, List.length_nil]; omega) | (simp [cmpP]; done) | (simp [cmpP]; omega)), ?_⟩) | (apply Gt.un; refine ⟨_, Qs.not (ao rfl), ?_⟩) | (apply Gt.pick; refine ⟨_, Qs.pickF (ao rfl) (ao rfl), ?_⟩) | (apply Gt.callv; refine ⟨_, Qs.call (ao rfl) (c1) (by first | ((repeat (first | exact ArgsLe.nil | refine ArgsLe.cons rfl (D.le.refl _) ?_ | refine ArgsLe.cons rfl D.le_nil ?_)); done) | fail), ?_⟩)) | (refine AWs.qG rfl rfl rfl rfl rfl ?_; first | (apply Gt.load; refine ⟨_, Qs.ldD (ao rfl) rfl (tab_of rfl) rfl rfl, ?_⟩) | (apply Gt.fieldAddr; refine ⟨_, Qs.fldP (ao rfl) (tab_of rfl) rfl (tab_of rfl) rfl, ?_⟩) | (apply Gt.bin; refine ⟨_, Qs.cmpF rfl (ao rfl) (ao rfl) (by first | (simp only [cmpP, List.length_cons, List.length_nil]; omega) | (simp [cmpP]; done) | (simp [cmpP]; omega)), ?_⟩) | (apply Gt.un; refine ⟨_, Qs.not (ao rfl), ?_⟩) | (apply Gt.callv; first | refine ⟨_, Qs.call (ao rfl) (c2) (by first | ((repeat (first | exact ArgsLe.nil | refine ArgsLe.cons rfl (D.le.refl _) ?_ | refine ArgsLe.cons rfl D.le_nil ?_)); done) | fail), ?_⟩ | refine ⟨_, Qs.call (ao rfl) (mValidT_abs (rtAt L k).m hm) (by first | ((repeat (first | exact ArgsLe.nil | refine ArgsLe.cons rfl (D.le.refl _) ?_ | refine ArgsLe.cons rfl D.le_nil ?_)); done) | fail), ?_⟩)) | apply AWl.nil | apply AThen.normal | apply AWp.block | apply AWp.skip | (apply Gc.cond; first | refine AWp.condT (ao rfl) ?_ | refine AWp.condF (ao rfl) ?_))
        refine AWp.dr' (DrawOk.self (by kernel_rfl)) [[], [(28, 0)], [(29, 1)], [], [], [(32, 4)], [(31, 3), (33, 5)], [(34, 6)], [(35, 7)], [], [(37, 9)], [(36, 8), (38, 10)], [(39, 11)], [(30, 2), (40, 12)]] [[], [0], [0, 1], [0, 1, 2], [0, 1, 2], [0, 1, 2, 4], [0, 1, 2, 3, 4, 5], [0, 1, 2, 3, 4, 5, 6], [0, 1, 2, 3, 4, 5, 6, 7], [0, 1, 2], [0, 1, 2, 9], [0, 1, 2, 3, 4, 5, 6, 7, 8, 9, 10], [0, 1, 2, 3, 4, 5, 6, 7, 8, 9, 10, 11], [0, 1, 2, 3, 4, 5, 6, 7, 8, 9, 10, 11, 12]] rfl (by kernel_rfl) (by kernel_rfl) (by kernel_rfl) ?_
        repeat (first | refine ⟨_, rfl, ?_⟩ | (apply Gh.move; (refine ⟨_, HStep.q rfl (Qs.move (ah rfl)), ?_⟩; refine ⟨_, rfl, ?_⟩)) | (apply Gh.bin; (refine ⟨_, HStep.q rfl (Qs.cmpT rfl (ah rfl) (ah rfl) (by first | (simp only [cmpP, List.length_cons, List.length_nil]; omega) | (simp [cmpP]; done) | (simp [cmpP]; omega))), ?_⟩; refine ⟨_, rfl, ?_⟩)) | (apply Gh.pick; (refine ⟨_, HStep.q rfl (Qs.pickT (ah rfl) (ah rfl)), ?_⟩; refine ⟨_, rfl, ?_⟩)) | (apply Gh.move; (refine ⟨_, HStep.gT rfl rfl (Qs.move (ah rfl)), ?_⟩; refine ⟨_, rfl, ?_⟩)) | (apply Gh.load; first | (refine ⟨_, HStep.gT rfl rfl (Qs.ldD (ah rfl) rfl (tab_of rfl) rfl rfl), ?_⟩; refine ⟨_, rfl, ?_⟩) | (refine ⟨_, HStep.gT rfl rfl (Qs.loadEf (ah rfl) (tab_of rfl) rfl rfl), ?_⟩; refine ⟨_, rfl, ?_⟩)) | (apply Gh.fieldAddr; first | (refine ⟨_, HStep.gT rfl rfl (Qs.fldE (ah rfl) (tab_of rfl) rfl (tab_of rfl) rfl rfl), ?_⟩; refine ⟨_, rfl, ?_⟩) | (refine ⟨_, HStep.gT rfl rfl (Qs.fldP (ah rfl) (tab_of rfl) rfl (tab_of rfl) rfl), ?_⟩; refine ⟨_, rfl, ?_⟩)) | (apply Gh.indexAddr; (refine ⟨_, HStep.gT rfl rfl (Qs.indexN rfl (ah rfl) (tab_of rfl) (tab_of rfl) rfl (by first | omega | (simp; omega))), ?_⟩; refine ⟨_, rfl, ?_⟩)) | (apply Gh.sub; (refine ⟨_, HStep.gT rfl rfl (Qs.pred (ah rfl) (ah rfl) (by omega) (by omega)), ?_⟩; refine ⟨_, rfl, ?_⟩)) | (apply Gh.bin; (refine ⟨_, HStep.gT rfl rfl (Qs.cmpT rfl (ah rfl) (ah rfl) (by first | (simp only [cmpP, List.length_cons, List.length_nil]; omega) | (simp [cmpP]; done) | (simp [cmpP]; omega))), ?_⟩; refine ⟨_, rfl, ?_⟩)) | (apply Gh.callv; (refine ⟨_, HStep.gT rfl rfl (Qs.call (ah rfl) (mCmp_abs (rtAt L (k - 1)).m (rtAt L k).m) (by first | ((repeat (first | exact ArgsLe.nil | refine ArgsLe.cons rfl (D.le.refl _) ?_ | refine ArgsLe.cons rfl D.le_nil ?_)); done) | fail)), ?_⟩; refine ⟨_, rfl, ?_⟩)))
        repeat (first | apply AWp.seq | apply AWp.region | (refine AWs.q rfl rfl ?_; (apply Gt.assign; refine ⟨_, Qs.assign (ao rfl), ?_⟩)) | apply AWl.nil | apply AThen.normal | apply AWp.ret | apply AThen.ret | apply ABlock.ret | apply ALoop.ret | (apply Gc.cond; refine AWp.condT (ao rfl) ?_))
        exact Fin.ret (Rets.of1 (ResV.tmp rfl rfl) (D.le.refl _))
     ·have hno : ¬ ValidL L := fun h => hm (h k hlt).1.2.2
      rw [decide_eq_false hno]
      repeat (first | apply AWp.seq | apply AWp.region | (apply Ga.alloc; refine AWs.al (tab_of rfl) rfl rfl rfl rfl rfl rfl ?_) | (apply Ga.store; refine AWs.stF (ao rfl) (ao rfl) rfl (tab_of rfl) rfl rfl rfl ?_) | (refine AWs.q rfl rfl ?_; first | (apply Gt.move; refine ⟨_, Qs.move (ao rfl), ?_⟩) | (apply Gt.assign; refine ⟨_, Qs.assign (ao rfl), ?_⟩) | (apply Gt.load; first | refine ⟨_, Qs.ldD (ao rfl) rfl (tab_of rfl) rfl rfl, ?_⟩ | refine ⟨_, Qs.loadEf (ao rfl) (tab_of rfl) rfl rfl, ?_⟩) | (apply Gt.fieldAddr; refine ⟨_, Qs.fldP (ao rfl) (tab_of rfl) rfl (tab_of rfl) rfl, ?_⟩) | (apply Gt.indexAddr; refine ⟨_, Qs.indexN rfl (ao rfl) (tab_of rfl) (tab_of rfl) rfl (by first | omega | (simp; omega)), ?_⟩) | (apply Gt.bin; refine ⟨_, Qs.cmpT rfl (ao rfl) (ao rfl) (by first | (simp only [cmpP, List.length_cons, List.length_nil]; omega) | (simp [cmpP]; done) | (simp [cmpP]; omega)), ?_⟩) | (apply Gt.un; refine ⟨_, Qs.not (ao rfl), ?_⟩) | (apply Gt.pick; refine ⟨_, Qs.pickF (ao rfl) (ao rfl), ?_⟩) | (apply Gt.callv; refine ⟨_, Qs.call (ao rfl) (c1) (by first | ((repeat (first | exact ArgsLe.nil | refine ArgsLe.cons rfl (D.le.refl _) ?_ | refine ArgsLe.cons rfl D.le_nil ?_)); done) | fail), ?_⟩)) | (refine AWs.qG rfl rfl rfl rfl rfl ?_; first | (apply Gt.load; refine ⟨_, Qs.ldD (ao rfl) rfl (tab_of rfl) rfl rfl, ?_⟩) | (apply Gt.fieldAddr; refine ⟨_, Qs.fldP (ao rfl) (tab_of rfl) rfl (tab_of rfl) rfl, ?_⟩) | (apply Gt.bin; refine ⟨_, Qs.cmpF rfl (ao rfl) (ao rfl) (by first | (simp only [cmpP, List.length_cons, List.length_nil]; omega) | (simp [cmpP]; done) | (simp [cmpP]; omega)), ?_⟩) | (apply Gt.un; refine ⟨_, Qs.not (ao rfl), ?_⟩) | (apply Gt.callv; first | refine ⟨_, Qs.call (ao rfl) (c2) (by first | ((repeat (first | exact ArgsLe.nil | refine ArgsLe.cons rfl (D.le.refl _) ?_ | refine ArgsLe.cons rfl D.le_nil ?_)); done) | fail), ?_⟩ | refine ⟨_, Qs.call (ao rfl) (mValidF_abs (rtAt L k).m hm) (by first | ((repeat (first | exact ArgsLe.nil | refine ArgsLe.cons rfl (D.le.refl _) ?_ | refine ArgsLe.cons rfl D.le_nil ?_)); done) | fail), ?_⟩)) | apply AWl.nil | apply AThen.normal | apply AWp.block | apply AWp.skip | apply AWp.ret | apply AThen.ret | apply ABlock.ret | apply ALoop.ret | (apply Gc.cond; refine AWp.condT (ao rfl) ?_))
      exact Fin.ret (Rets.of1 (ResV.tmp rfl rfl) (D.le.refl _))
   ·rw [decide_eq_false hq] at c1
    have hno : ¬ ValidL L := fun h => hq (h k hlt).1.1
    rw [decide_eq_false hno]
    repeat (first | apply AWp.seq | apply AWp.region | (apply Ga.alloc; refine AWs.al (tab_of rfl) rfl rfl rfl rfl rfl rfl ?_) | (apply Ga.store; refine AWs.stF (ao rfl) (ao rfl) rfl (tab_of rfl) rfl rfl rfl ?_) | (refine AWs.q rfl rfl ?_; first | (apply Gt.move; refine ⟨_, Qs.move (ao rfl), ?_⟩) | (apply Gt.assign; refine ⟨_, Qs.assign (ao rfl), ?_⟩) | (apply Gt.load; first | refine ⟨_, Qs.ldD (ao rfl) rfl (tab_of rfl) rfl rfl, ?_⟩ | refine ⟨_, Qs.loadEf (ao rfl) (tab_of rfl) rfl rfl, ?_⟩) | (apply Gt.fieldAddr; refine ⟨_, Qs.fldP (ao rfl) (tab_of rfl) rfl (tab_of rfl) rfl, ?_⟩) | (apply Gt.indexAddr; refine ⟨_, Qs.indexN rfl (ao rfl) (tab_of rfl) (tab_of rfl) rfl (by first | omega | (simp; omega)), ?_⟩) | (apply Gt.bin; refine ⟨_, Qs.cmpT rfl (ao rfl) (ao rfl) (by first | (simp only [cmpP, List.length_cons, List.length_nil]; omega) | (simp [cmpP]; done) | (simp [cmpP]; omega)), ?_⟩) | (apply Gt.un; refine ⟨_, Qs.not (ao rfl), ?_⟩) | (apply Gt.pick; refine ⟨_, Qs.pickT (ao rfl) (ao rfl), ?_⟩) | (apply Gt.callv; refine ⟨_, Qs.call (ao rfl) (c1) (by first | ((repeat (first | exact ArgsLe.nil | refine ArgsLe.cons rfl (D.le.refl _) ?_ | refine ArgsLe.cons rfl D.le_nil ?_)); done) | fail), ?_⟩)) | refine AWs.sG rfl rfl rfl rfl rfl ?_ | apply AWl.nil | apply AThen.normal | apply AWp.block | apply AWp.skip | apply AWp.ret | apply AThen.ret | apply ABlock.ret | apply ALoop.ret | (apply Gc.cond; refine AWp.condT (ao rfl) ?_))
    exact Fin.ret (Rets.of1 (ResV.tmp rfl rfl) (D.le.refl _))
  ·obtain rfl : k = L.length := by omega
   have hyes : ValidL L := hall
   rw [decide_eq_true hyes]
   repeat (first | apply AWp.seq | apply AWp.region | (refine AWs.q rfl rfl ?_; first | (apply Gt.assign; refine ⟨_, Qs.assign (ao rfl), ?_⟩) | (apply Gt.bin; refine ⟨_, Qs.cmpF rfl (ao rfl) (ao rfl) (by first | (simp only [cmpP, List.length_cons, List.length_nil]; omega) | (simp [cmpP]; done) | (simp [cmpP]; omega)), ?_⟩)) | apply AWl.nil | apply AThen.normal | apply AWp.exit | apply AWp.ret | apply AThen.exit | apply ABlock.hit | apply ALoop.exit | (apply Gc.cond; refine AWp.condF (ao rfl) ?_))
   exact Fin.ret (Rets.of1 (ResV.tmp rfl rfl) (D.le.refl _))
end Go.Proofs.YteicdddphdomkaaGreat
namespace Go.Proofs.YteicdddphdomkaaGreat
open Go.RowKit
set_option maxRecDepth 100000
theorem RmValidT_abs (a : Nat → Int) (h : In8 a 0 65535) : Abs Tryz.prog 72 [agD (monC a)] (ex (.bool true)) := by
 refine Abs.intro Tryz.func72 rfl (callFunc_run Tryz.func72 (by kernel_rfl) (by kernel_rfl)) rfl fun s0 => ?_
 rw [Tryz.ntmps72]
 repeat (first | apply AWp.seq | apply AWp.region | (apply Ga.box; refine AWs.bx (ao rfl) rfl rfl rfl rfl ?_) | (refine AWs.q rfl rfl ?_; (apply Gt.assign; refine ⟨_, Qs.assign (ao rfl), ?_⟩)) | apply AWl.nil | apply AThen.normal | apply AWp.block)
 refine AWp.loop (fun mz σ => ∃ k, k ≤ 8 ∧ mz = 8 - k ∧ σ = ⟨[(1, .ptr 0 0), (2, .d (ex (.bool false))), (3, .d (ex (.int .i64 (k : Nat))))], [.var 31 ((monC a).map .d)]⟩) ?le ⟨0, by omega, rfl, rfl⟩ ?round
 case le => exact AS.le_of (by repeat (first | exact FrLe.nil | refine FrLe.cons rfl (AVle.d rfl) ?_ | refine FrLe.cons rfl (AVle.ptr rfl) ?_)) (by repeat (first | exact HpLe.nil | refine HpLe.cons (OwLe.varD rfl) ?_))
 case round =>
  rintro mz _ ⟨k, hk, rfl, rfl⟩
  by_cases hlt : k < 8
  ·have hk' := h k hlt
   repeat (first | apply AWp.seq | apply AWp.region | (refine AWs.q rfl rfl ?_; first | (apply Gt.move; refine ⟨_, Qs.move (ao rfl), ?_⟩) | (apply Gt.assign; refine ⟨_, Qs.assign (ao rfl), ?_⟩) | (apply Gt.load; refine ⟨_, Qs.ldX1 (ao rfl) rfl (tab_of rfl) rfl (CellAt.mon0 (by first | omega | (simp; omega))), ?_⟩) | (apply Gt.indexAddr; refine ⟨_, Qs.ixP (ao rfl) (ao rfl) (tab_of rfl) (tab_of rfl) (by first | omega | (simp; omega)), ?_⟩) | (apply Gt.add; refine ⟨_, Qs.succ (ao rfl) (ao rfl) (by omega), ?_⟩) | (apply Gt.bin; first | refine ⟨_, Qs.cmpT rfl (ao rfl) (ao rfl) (by first | (simp only [cmpP, List.length_cons, List.length_nil]; omega) | (simp [cmpP]; done) | (simp [cmpP]; omega)), ?_⟩ | refine ⟨_, Qs.cmpF rfl (ao rfl) (ao rfl) (by first | (simp only [cmpP, List.length_cons, List.length_nil]; omega) | (simp [cmpP]; done) | (simp [cmpP]; omega)), ?_⟩) | (apply Gt.pick; refine ⟨_, Qs.pickF (ao rfl) (ao rfl), ?_⟩)) | (refine AWs.qG rfl rfl rfl rfl rfl ?_; first | (apply Gt.move; refine ⟨_, Qs.move (ao rfl), ?_⟩) | (apply Gt.load; refine ⟨_, Qs.ldX1 (ao rfl) rfl (tab_of rfl) rfl (CellAt.mon0 (by first | omega | (simp; omega))), ?_⟩) | (apply Gt.indexAddr; refine ⟨_, Qs.ixP (ao rfl) (ao rfl) (tab_of rfl) (tab_of rfl) (by first | omega | (simp; omega)), ?_⟩) | (apply Gt.bin; refine ⟨_, Qs.cmpF rfl (ao rfl) (ao rfl) (by first | (simp only [cmpP, List.length_cons, List.length_nil]; omega) | (simp [cmpP]; done) | (simp [cmpP]; omega)), ?_⟩)) | apply AWl.nil | apply AThen.normal | apply AWp.block | apply AWp.skip | apply ABlock.normal | (apply Gc.cond; first | refine AWp.condT (ao rfl) ?_ | refine AWp.condF (ao rfl) ?_))
   refine ALoop.next (8 - (k + 1)) (by omega) ⟨k + 1, by omega, rfl, rfl⟩ ?_
   exact AS.le_of (by repeat (first | exact FrLe.nil | refine FrLe.cons rfl (AVle.d rfl) ?_ | refine FrLe.cons rfl (AVle.ptr rfl) ?_)) (by repeat (first | exact HpLe.nil | refine HpLe.cons (OwLe.varD rfl) ?_))
  ·obtain rfl : k = 8 := by omega
   repeat (first | apply AWp.seq | apply AWp.region | (refine AWs.q rfl rfl ?_; first | (apply Gt.move; refine ⟨_, Qs.move (ao rfl), ?_⟩) | (apply Gt.assign; refine ⟨_, Qs.assign (ao rfl), ?_⟩) | (apply Gt.bin; refine ⟨_, Qs.cmpF rfl (ao rfl) (ao rfl) (by first | (simp only [cmpP, List.length_cons, List.length_nil]; omega) | (simp [cmpP]; done) | (simp [cmpP]; omega)), ?_⟩)) | apply AWl.nil | apply AThen.normal | apply AWp.exit | apply AWp.ret | apply AThen.exit | apply ABlock.hit | apply ALoop.exit | (apply Gc.cond; refine AWp.condF (ao rfl) ?_))
   exact Fin.ret (Rets.of1 (ResV.tmp rfl rfl) (D.le.refl _))
theorem RmValidF_abs (a : Nat → Int) (h : ¬ In8 a 0 65535) : Abs Tryz.prog 72 [agD (monC a)] (ex (.bool false)) := by
 refine Abs.intro Tryz.func72 rfl (callFunc_run Tryz.func72 (by kernel_rfl) (by kernel_rfl)) rfl fun s0 => ?_
 rw [Tryz.ntmps72]
 repeat (first | apply AWp.seq | apply AWp.region | (apply Ga.box; refine AWs.bx (ao rfl) rfl rfl rfl rfl ?_) | (refine AWs.q rfl rfl ?_; (apply Gt.assign; refine ⟨_, Qs.assign (ao rfl), ?_⟩)) | apply AWl.nil | apply AThen.normal | apply AWp.block)
 refine AWp.loop (fun mz σ => ∃ k, k ≤ 8 ∧ mz = 8 - k ∧ (∀ j, j < k → 0 ≤ a j ∧ a j ≤ 65535) ∧ σ = ⟨[(1, .ptr 0 0), (2, .d (ex (.bool false))), (3, .d (ex (.int .i64 (k : Nat))))], [.var 31 ((monC a).map .d)]⟩) ?le ⟨0, by omega, rfl, fun j hj => absurd hj (Nat.not_lt_zero j), rfl⟩ ?round
 case le => exact AS.le_of (by repeat (first | exact FrLe.nil | refine FrLe.cons rfl (AVle.d rfl) ?_ | refine FrLe.cons rfl (AVle.ptr rfl) ?_)) (by repeat (first | exact HpLe.nil | refine HpLe.cons (OwLe.varD rfl) ?_))
 case round =>
  rintro mz _ ⟨k, hk, rfl, hall, rfl⟩
  by_cases hlt : k < 8
  ·rcases (show a k < 0 ∨ (0 ≤ a k ∧ 65535 < a k) ∨ (0 ≤ a k ∧ a k ≤ 65535) by omega) with h1 | ⟨h1, h2⟩ | ⟨h1, h2⟩
   ·repeat (first | apply AWp.seq | apply AWp.region | (refine AWs.q rfl rfl ?_; first | (apply Gt.move; refine ⟨_, Qs.move (ao rfl), ?_⟩) | (apply Gt.assign; refine ⟨_, Qs.assign (ao rfl), ?_⟩) | (apply Gt.load; refine ⟨_, Qs.ldX1 (ao rfl) rfl (tab_of rfl) rfl (CellAt.mon0 (by first | omega | (simp; omega))), ?_⟩) | (apply Gt.indexAddr; refine ⟨_, Qs.ixP (ao rfl) (ao rfl) (tab_of rfl) (tab_of rfl) (by first | omega | (simp; omega)), ?_⟩) | (apply Gt.bin; refine ⟨_, Qs.cmpT rfl (ao rfl) (ao rfl) (by first | (simp only [cmpP, List.length_cons, List.length_nil]; omega) | (simp [cmpP]; done) | (simp [cmpP]; omega)), ?_⟩) | (apply Gt.pick; refine ⟨_, Qs.pickT (ao rfl) (ao rfl), ?_⟩)) | refine AWs.sG rfl rfl rfl rfl rfl ?_ | apply AWl.nil | apply AThen.normal | apply AWp.block | apply AWp.skip | apply AWp.ret | apply AThen.ret | apply ABlock.ret | apply ALoop.ret | (apply Gc.cond; refine AWp.condT (ao rfl) ?_))
    exact Fin.ret (Rets.of1 (ResV.tmp rfl rfl) (D.le.refl _))
   ·repeat (first | apply AWp.seq | apply AWp.region | (refine AWs.q rfl rfl ?_; first | (apply Gt.move; refine ⟨_, Qs.move (ao rfl), ?_⟩) | (apply Gt.assign; refine ⟨_, Qs.assign (ao rfl), ?_⟩) | (apply Gt.load; refine ⟨_, Qs.ldX1 (ao rfl) rfl (tab_of rfl) rfl (CellAt.mon0 (by first | omega | (simp; omega))), ?_⟩) | (apply Gt.indexAddr; refine ⟨_, Qs.ixP (ao rfl) (ao rfl) (tab_of rfl) (tab_of rfl) (by first | omega | (simp; omega)), ?_⟩) | (apply Gt.bin; first | refine ⟨_, Qs.cmpT rfl (ao rfl) (ao rfl) (by first | (simp only [cmpP, List.length_cons, List.length_nil]; omega) | (simp [cmpP]; done) | (simp [cmpP]; omega)), ?_⟩ | refine ⟨_, Qs.cmpF rfl (ao rfl) (ao rfl) (by first | (simp only [cmpP, List.length_cons, List.length_nil]; omega) | (simp [cmpP]; done) | (simp [cmpP]; omega)), ?_⟩) | (apply Gt.pick; refine ⟨_, Qs.pickF (ao rfl) (ao rfl), ?_⟩)) | (refine AWs.qG rfl rfl rfl rfl rfl ?_; first | (apply Gt.move; refine ⟨_, Qs.move (ao rfl), ?_⟩) | (apply Gt.load; refine ⟨_, Qs.ldX1 (ao rfl) rfl (tab_of rfl) rfl (CellAt.mon0 (by first | omega | (simp; omega))), ?_⟩) | (apply Gt.indexAddr; refine ⟨_, Qs.ixP (ao rfl) (ao rfl) (tab_of rfl) (tab_of rfl) (by first | omega | (simp; omega)), ?_⟩) | (apply Gt.bin; refine ⟨_, Qs.cmpT rfl (ao rfl) (ao rfl) (by first | (simp only [cmpP, List.length_cons, List.length_nil]; omega) | (simp [cmpP]; done) | (simp [cmpP]; omega)), ?_⟩)) | apply AWl.nil | apply AThen.normal | apply AWp.block | apply AWp.skip | apply AWp.ret | apply AThen.ret | apply ABlock.ret | apply ALoop.ret | (apply Gc.cond; refine AWp.condT (ao rfl) ?_))
    exact Fin.ret (Rets.of1 (ResV.tmp rfl rfl) (D.le.refl _))
   ·repeat (first | apply AWp.seq | apply AWp.region | (refine AWs.q rfl rfl ?_; first | (apply Gt.move; refine ⟨_, Qs.move (ao rfl), ?_⟩) | (apply Gt.assign; refine ⟨_, Qs.assign (ao rfl), ?_⟩) | (apply Gt.load; refine ⟨_, Qs.ldX1 (ao rfl) rfl (tab_of rfl) rfl (CellAt.mon0 (by first | omega | (simp; omega))), ?_⟩) | (apply Gt.indexAddr; refine ⟨_, Qs.ixP (ao rfl) (ao rfl) (tab_of rfl) (tab_of rfl) (by first | omega | (simp; omega)), ?_⟩) | (apply Gt.add; refine ⟨_, Qs.succ (ao rfl) (ao rfl) (by omega), ?_⟩) | (apply Gt.bin; first | refine ⟨_, Qs.cmpT rfl (ao rfl) (ao rfl) (by first | (simp only [cmpP, List.length_cons, List.length_nil]; omega) | (simp [cmpP]; done) | (simp [cmpP]; omega)), ?_⟩ | refine ⟨_, Qs.cmpF rfl (ao rfl) (ao rfl) (by first | (simp only [cmpP, List.length_cons, List.length_nil]; omega) | (simp [cmpP]; done) | (simp [cmpP]; omega)), ?_⟩) | (apply Gt.pick; refine ⟨_, Qs.pickF (ao rfl) (ao rfl), ?_⟩)) | (refine AWs.qG rfl rfl rfl rfl rfl ?_; first | (apply Gt.move; refine ⟨_, Qs.move (ao rfl), ?_⟩) | (apply Gt.load; refine ⟨_, Qs.ldX1 (ao rfl) rfl (tab_of rfl) rfl (CellAt.mon0 (by first | omega | (simp; omega))), ?_⟩) | (apply Gt.indexAddr; refine ⟨_, Qs.ixP (ao rfl) (ao rfl) (tab_of rfl) (tab_of rfl) (by first | omega | (simp; omega)), ?_⟩) | (apply Gt.bin; refine ⟨_, Qs.cmpF rfl (ao rfl) (ao rfl) (by first | (simp only [cmpP, List.length_cons, List.length_nil]; omega) | (simp [cmpP]; done) | (simp [cmpP]; omega)), ?_⟩)) | apply AWl.nil | apply AThen.normal | apply AWp.block | apply AWp.skip | apply ABlock.normal | (apply Gc.cond; first | refine AWp.condT (ao rfl) ?_ | refine AWp.condF (ao rfl) ?_))
    refine ALoop.next (8 - (k + 1)) (by omega) ⟨k + 1, by omega, rfl, fun j hj => ?_, rfl⟩ ?_
    ·rcases Nat.lt_succ_iff_lt_or_eq.1 hj with h3 | rfl
     ·exact hall j h3
     ·exact ⟨h1, h2⟩
    ·exact AS.le_of (by repeat (first | exact FrLe.nil | refine FrLe.cons rfl (AVle.d rfl) ?_ | refine FrLe.cons rfl (AVle.ptr rfl) ?_)) (by repeat (first | exact HpLe.nil | refine HpLe.cons (OwLe.varD rfl) ?_))
  ·obtain rfl : k = 8 := by omega
   exact absurd hall h
open Classical in
theorem RPValid_abs (L : List RTm) (hz : rtSz L) (hn : L.length ≤ 1000000) : Abs Tryz.prog 15 [rtD L] (ex (.bool (decide (ValidL L)))) := by
 refine Abs.intro Tryz.func15 rfl (callFunc_run Tryz.func15 (by kernel_rfl) (by kernel_rfl)) rfl fun s0 => ?_
 rw [Tryz.ntmps15]
 repeat (first | apply AWp.seq | apply AWp.region | (refine AWs.q rfl rfl ?_; (apply Gt.assign; refine ⟨_, Qs.assign (ao rfl), ?_⟩)) | apply AWl.nil | apply AThen.normal | apply AWp.block)
 refine AWp.loop (fun mz σ => ∃ k, k ≤ L.length ∧ mz = L.length - k ∧ (∀ j, j < k → tOk (rtAt L j) ∧ (0 < j → 0 < lex8 (rtAt L (j - 1)).m (rtAt L j).m)) ∧ σ = ⟨[(0, .d (rtD L)), (3, .d (ex (.int .i64 (k : Nat))))], []⟩) ?le ⟨0, by omega, rfl, fun j hj => absurd hj (Nat.not_lt_zero j), rfl⟩ ?round
 case le => exact AS.le_of (by repeat (first | exact FrLe.nil | refine FrLe.cons rfl (AVle.d rfl) ?_)) (by repeat (exact HpLe.nil))
 case round =>
  rintro mz _ ⟨k, hk, rfl, hall, rfl⟩
  by_cases hlt : k < L.length
  ·obtain ⟨z1, z2, z3, z4⟩ := hz _ (rtAt_mem hlt)
   have c1 := RrValid_abs (rtAt L k).b (rtAt L k).l (rtAt L k).b' (rtAt L k).l' z1 z2 z3 z4
   by_cases hq : QOk (rtAt L k).b (rtAt L k).l (rtAt L k).b' (rtAt L k).l'
   ·rw [decide_eq_true hq] at c1
    obtain ⟨q, q1, q2, q3, q4⟩ := id hq
    have c2 := RSign_abs q
    have hcc : ratC q = rawC (rtAt L k).b (rtAt L k).l (rtAt L k).b' (rtAt L k).l' := by rw [q1, q2, q3, q4]; rfl
    rw [hcc] at c2
    by_cases hz0 : q = 0
    ·have hs := num_sign0.2 hz0
     have hno : ¬ ValidL L := fun h => (h k hlt).1.2.1 (by rw [q2, hz0]; exact digs_zero)
     rw [decide_eq_false hno]
     repeat (first | apply AWp.seq | apply AWp.region | (refine AWs.q rfl rfl ?_; first | (apply Gt.move; refine ⟨_, Qs.move (ao rfl), ?_⟩) | (apply Gt.assign; refine ⟨_, Qs.assign (ao rfl), ?_⟩) | (apply Gt.load; refine ⟨_, Qs.ldE (ao rfl) (tab_of rfl) rfl rfl, ?_⟩) | (apply Gt.fieldAddr; refine ⟨_, Qs.fldE (ao rfl) (tab_of rfl) rfl (tab_of rfl) rfl rfl, ?_⟩) | (apply Gt.indexAddr; refine ⟨_, Qs.indexN rfl (ao rfl) (tab_of rfl) (tab_of rfl) rfl (by first | omega | (simp; omega)), ?_⟩) | (apply Gt.len; refine ⟨_, Qs.lenN rfl (tab_of rfl), ?_⟩) | (apply Gt.bin; refine ⟨_, Qs.cmpT rfl (ao rfl) (ao rfl) (by first | (simp only [cmpP, List.length_cons, List.length_nil]; omega) | (simp [cmpP]; done) | (simp [cmpP]; omega)), ?_⟩) | (apply Gt.un; refine ⟨_, Qs.not (ao rfl), ?_⟩) | (apply Gt.pick; first | refine ⟨_, Qs.pickT (ao rfl) (ao rfl), ?_⟩ | refine ⟨_, Qs.pickF (ao rfl) (ao rfl), ?_⟩) | (apply Gt.callv; refine ⟨_, Qs.call (ao rfl) (c1) (by first | ((repeat (first | exact ArgsLe.nil | refine ArgsLe.cons rfl (D.le.refl _) ?_ | refine ArgsLe.cons rfl D.le_nil ?_)); done) | fail), ?_⟩)) | refine AWs.sG rfl rfl rfl rfl rfl ?_ | (refine AWs.qG rfl rfl rfl rfl rfl ?_; first | (apply Gt.move; refine ⟨_, Qs.move (ao rfl), ?_⟩) | (apply Gt.load; refine ⟨_, Qs.ldE (ao rfl) (tab_of rfl) rfl rfl, ?_⟩) | (apply Gt.fieldAddr; refine ⟨_, Qs.fldE (ao rfl) (tab_of rfl) rfl (tab_of rfl) rfl rfl, ?_⟩) | (apply Gt.indexAddr; refine ⟨_, Qs.indexN rfl (ao rfl) (tab_of rfl) (tab_of rfl) rfl (by first | omega | (simp; omega)), ?_⟩) | (apply Gt.bin; refine ⟨_, Qs.cmpT rfl (ao rfl) (ao rfl) (by first | (simp only [cmpP, List.length_cons, List.length_nil]; omega) | (simp [cmpP]; done) | (simp [cmpP]; omega)), ?_⟩) | (apply Gt.callv; refine ⟨_, Qs.call (ao rfl) (c2) (by first | ((repeat (first | exact ArgsLe.nil | refine ArgsLe.cons rfl (D.le.refl _) ?_ | refine ArgsLe.cons rfl D.le_nil ?_)); done) | fail), ?_⟩)) | apply AWl.nil | apply AThen.normal | apply AWp.block | apply AWp.skip | apply AWp.ret | apply AThen.ret | apply ABlock.ret | apply ALoop.ret | (apply Gc.cond; refine AWp.condT (ao rfl) ?_))
     exact Fin.ret (Rets.of1 (ResV.tmp rfl rfl) (D.le.refl _))
    ·have hs : q.num.sign ≠ 0 := fun e => hz0 (num_sign0.1 e)
     by_cases hm : In8 (rtAt L k).m 0 65535
     ·have htk : tOk (rtAt L k) := ⟨hq, fun e => by rw [q2] at e; have := digs_length_zero.1 (by rw [e]; rfl); exact rnum_ne hz0 (by omega), hm⟩
      rcases Nat.eq_zero_or_pos k with h0 | h0
      ·subst h0
       repeat (first | apply AWp.seq | apply AWp.region | (refine AWs.q rfl rfl ?_; first | (apply Gt.move; refine ⟨_, Qs.move (ao rfl), ?_⟩) | (apply Gt.load; refine ⟨_, Qs.ldE (ao rfl) (tab_of rfl) rfl rfl, ?_⟩) | (apply Gt.fieldAddr; refine ⟨_, Qs.fldE (ao rfl) (tab_of rfl) rfl (tab_of rfl) rfl rfl, ?_⟩) | (apply Gt.indexAddr; refine ⟨_, Qs.indexN rfl (ao rfl) (tab_of rfl) (tab_of rfl) rfl (by first | omega | (simp; omega)), ?_⟩) | (apply Gt.len; refine ⟨_, Qs.lenN rfl (tab_of rfl), ?_⟩) | (apply Gt.bin; refine ⟨_, Qs.cmpT rfl (ao rfl) (ao rfl) (by first | (simp only [cmpP, List.length_cons, List.length_nil]; omega) | (simp [cmpP]; done) | (simp [cmpP]; omega)), ?_⟩) | (apply Gt.un; refine ⟨_, Qs.not (ao rfl), ?_⟩) | (apply Gt.pick; refine ⟨_, Qs.pickF (ao rfl) (ao rfl), ?_⟩) | (apply Gt.callv; refine ⟨_, Qs.call (ao rfl) (c1) (by first | ((repeat (first | exact ArgsLe.nil | refine ArgsLe.cons rfl (D.le.refl _) ?_ | refine ArgsLe.cons rfl D.le_nil ?_)); done) | fail), ?_⟩)) | (refine AWs.qG rfl rfl rfl rfl rfl ?_; first | (apply Gt.move; refine ⟨_, Qs.move (ao rfl), ?_⟩) | (apply Gt.load; first | refine ⟨_, Qs.loadEf (ao rfl) (tab_of rfl) rfl rfl, ?_⟩ | refine ⟨_, Qs.ldE (ao rfl) (tab_of rfl) rfl rfl, ?_⟩) | (apply Gt.fieldAddr; refine ⟨_, Qs.fldE (ao rfl) (tab_of rfl) rfl (tab_of rfl) rfl rfl, ?_⟩) | (apply Gt.indexAddr; refine ⟨_, Qs.indexN rfl (ao rfl) (tab_of rfl) (tab_of rfl) rfl (by first | omega | (simp; omega)), ?_⟩) | (apply Gt.bin; refine ⟨_, Qs.cmpF rfl (ao rfl) (ao rfl) (by first | (simp only [cmpP, List.length_cons, List.length_nil]; omega) | (simp [cmpP]; done) | (simp [cmpP]; omega)), ?_⟩) | (apply Gt.un; refine ⟨_, Qs.not (ao rfl), ?_⟩) | (apply Gt.callv; first | refine ⟨_, Qs.call (ao rfl) (c2) (by first | ((repeat (first | exact ArgsLe.nil | refine ArgsLe.cons rfl (D.le.refl _) ?_ | refine ArgsLe.cons rfl D.le_nil ?_)); done) | fail), ?_⟩ | refine ⟨_, Qs.call (ao rfl) (RmValidT_abs (rtAt L 0).m hm) (by first | ((repeat (first | exact ArgsLe.nil | refine ArgsLe.cons rfl (D.le.refl _) ?_ | refine ArgsLe.cons rfl D.le_nil ?_)); done) | fail), ?_⟩)) | apply AWl.nil | apply AThen.normal | apply AWp.block | apply AWp.skip | (apply Gc.cond; first | refine AWp.condT (ao rfl) ?_ | refine AWp.condF (ao rfl) ?_))
       refine AWp.dr' (DrawOk.self (by kernel_rfl)) [[], [(35, 0)], [(36, 1)], [], [], [(39, 4)], [(38, 3), (40, 5)], [(41, 6)], [(42, 7)], [], [], [(44, 9), (45, 10)], [(46, 11)], [(47, 12)], [(43, 8), (48, 13)], [(49, 14)], [(37, 2), (50, 15)]] [[], [0], [0, 1], [0, 1, 2], [0, 1, 2], [0, 1, 2, 4], [0, 1, 2, 3, 4, 5], [0, 1, 2, 3, 4, 5, 6], [0, 1, 2, 3, 4, 5, 6, 7], [0, 1, 2], [0, 1, 2], [0, 1, 2, 9, 10], [0, 1, 2, 9, 10, 11], [0, 1, 2, 9, 10, 11, 12], [0, 1, 2, 3, 4, 5, 6, 7, 8, 9, 10, 11, 12, 13], [0, 1, 2, 3, 4, 5, 6, 7, 8, 9, 10, 11, 12, 13, 14], [0, 1, 2, 3, 4, 5, 6, 7, 8, 9, 10, 11, 12, 13, 14, 15]] rfl (by kernel_rfl) (by kernel_rfl) (by kernel_rfl) ?_
       repeat (first | refine ⟨_, rfl, ?_⟩ | (apply Gh.move; (refine ⟨_, HStep.q rfl (Qs.move (ah rfl)), ?_⟩; refine ⟨_, rfl, ?_⟩)) | (apply Gh.bin; (refine ⟨_, HStep.q rfl (Qs.cmpF rfl (ah rfl) (ah rfl) (by first | (simp only [cmpP, List.length_cons, List.length_nil]; omega) | (simp [cmpP]; done) | (simp [cmpP]; omega))), ?_⟩; refine ⟨_, rfl, ?_⟩)) | (apply Gh.pick; (refine ⟨_, HStep.q rfl (Qs.pickF (ah rfl) (ah rfl)), ?_⟩; refine ⟨_, rfl, ?_⟩)) | (refine ⟨_, HStep.gF rfl rfl rfl, ?_⟩; refine ⟨_, rfl, ?_⟩))
       repeat (first | apply AWp.region | (refine AWs.q rfl rfl ?_; first | (apply Gt.move; refine ⟨_, Qs.move (ao rfl), ?_⟩) | (apply Gt.assign; refine ⟨_, Qs.assign (ao rfl), ?_⟩) | (apply Gt.add; refine ⟨_, Qs.succ (ao rfl) (ao rfl) (by omega), ?_⟩)) | apply AWl.nil | apply AThen.normal | apply AWp.skip | apply ABlock.normal | (apply Gc.cond; refine AWp.condF (ao rfl) ?_))
       refine ALoop.next (L.length - 1) (by omega) ⟨1, by omega, rfl, fun j hj => by obtain rfl : j = 0 := (by omega); exact ⟨htk, fun h => absurd h (Nat.lt_irrefl _)⟩, rfl⟩ ?_
       exact AS.le_of (by repeat (first | exact FrLe.nil | refine FrLe.cons rfl (AVle.d rfl) ?_)) (by repeat (exact HpLe.nil))
      ·by_cases hc : 0 < lex8 (rtAt L (k - 1)).m (rtAt L k).m
       ·repeat (first | apply AWp.seq | apply AWp.region | (refine AWs.q rfl rfl ?_; first | (apply Gt.move; refine ⟨_, Qs.move (ao rfl), ?_⟩) | (apply Gt.load; refine ⟨_, Qs.ldE (ao rfl) (tab_of rfl) rfl rfl, ?_⟩) | (apply Gt.fieldAddr; refine ⟨_, Qs.fldE (ao rfl) (tab_of rfl) rfl (tab_of rfl) rfl rfl, ?_⟩) | (apply Gt.indexAddr; refine ⟨_, Qs.indexN rfl (ao rfl) (tab_of rfl) (tab_of rfl) rfl (by first | omega | (simp; omega)), ?_⟩) | (apply Gt.len; refine ⟨_, Qs.lenN rfl (tab_of rfl), ?_⟩) | (apply Gt.bin; refine ⟨_, Qs.cmpT rfl (ao rfl) (ao rfl) (by first | (simp only [cmpP, List.length_cons, List.length_nil]; omega) | (simp [cmpP]; done) | (simp [cmpP]; omega)), ?_⟩) | (apply Gt.un; refine ⟨_, Qs.not (ao rfl), ?_⟩) | (apply Gt.pick; refine ⟨_, Qs.pickF (ao rfl) (ao rfl), ?_⟩) | (apply Gt.callv; refine ⟨_, Qs.call (ao rfl) (c1) (by first | ((repeat (first | exact ArgsLe.nil | refine ArgsLe.cons rfl (D.le.refl _) ?_ | refine ArgsLe.cons rfl D.le_nil ?_)); done) | fail), ?_⟩)) | (refine AWs.qG rfl rfl rfl rfl rfl ?_; first | (apply Gt.move; refine ⟨_, Qs.move (ao rfl), ?_⟩) | (apply Gt.load; first | refine ⟨_, Qs.loadEf (ao rfl) (tab_of rfl) rfl rfl, ?_⟩ | refine ⟨_, Qs.ldE (ao rfl) (tab_of rfl) rfl rfl, ?_⟩) | (apply Gt.fieldAddr; refine ⟨_, Qs.fldE (ao rfl) (tab_of rfl) rfl (tab_of rfl) rfl rfl, ?_⟩) | (apply Gt.indexAddr; refine ⟨_, Qs.indexN rfl (ao rfl) (tab_of rfl) (tab_of rfl) rfl (by first | omega | (simp; omega)), ?_⟩) | (apply Gt.bin; refine ⟨_, Qs.cmpF rfl (ao rfl) (ao rfl) (by first | (simp only [cmpP, List.length_cons, List.length_nil]; omega) | (simp [cmpP]; done) | (simp [cmpP]; omega)), ?_⟩) | (apply Gt.un; refine ⟨_, Qs.not (ao rfl), ?_⟩) | (apply Gt.callv; first | refine ⟨_, Qs.call (ao rfl) (c2) (by first | ((repeat (first | exact ArgsLe.nil | refine ArgsLe.cons rfl (D.le.refl _) ?_ | refine ArgsLe.cons rfl D.le_nil ?_)); done) | fail), ?_⟩ | refine ⟨_, Qs.call (ao rfl) (RmValidT_abs (rtAt L k).m hm) (by first | ((repeat (first | exact ArgsLe.nil | refine ArgsLe.cons rfl (D.le.refl _) ?_ | refine ArgsLe.cons rfl D.le_nil ?_)); done) | fail), ?_⟩)) | apply AWl.nil | apply AThen.normal | apply AWp.block | apply AWp.skip | (apply Gc.cond; first | refine AWp.condT (ao rfl) ?_ | refine AWp.condF (ao rfl) ?_))
        refine AWp.dr' (DrawOk.self (by kernel_rfl)) [[], [(35, 0)], [(36, 1)], [], [], [(39, 4)], [(38, 3), (40, 5)], [(41, 6)], [(42, 7)], [], [], [(44, 9), (45, 10)], [(46, 11)], [(47, 12)], [(43, 8), (48, 13)], [(49, 14)], [(37, 2), (50, 15)]] [[], [0], [0, 1], [0, 1, 2], [0, 1, 2], [0, 1, 2, 4], [0, 1, 2, 3, 4, 5], [0, 1, 2, 3, 4, 5, 6], [0, 1, 2, 3, 4, 5, 6, 7], [0, 1, 2], [0, 1, 2], [0, 1, 2, 9, 10], [0, 1, 2, 9, 10, 11], [0, 1, 2, 9, 10, 11, 12], [0, 1, 2, 3, 4, 5, 6, 7, 8, 9, 10, 11, 12, 13], [0, 1, 2, 3, 4, 5, 6, 7, 8, 9, 10, 11, 12, 13, 14], [0, 1, 2, 3, 4, 5, 6, 7, 8, 9, 10, 11, 12, 13, 14, 15]] rfl (by kernel_rfl) (by kernel_rfl) (by kernel_rfl) ?_
        repeat (first | refine ⟨_, rfl, ?_⟩ | (apply Gh.move; (refine ⟨_, HStep.q rfl (Qs.move (ah rfl)), ?_⟩; refine ⟨_, rfl, ?_⟩)) | (apply Gh.bin; (refine ⟨_, HStep.q rfl (Qs.cmpT rfl (ah rfl) (ah rfl) (by first | (simp only [cmpP, List.length_cons, List.length_nil]; omega) | (simp [cmpP]; done) | (simp [cmpP]; omega))), ?_⟩; refine ⟨_, rfl, ?_⟩)) | (apply Gh.pick; (refine ⟨_, HStep.q rfl (Qs.pickT (ah rfl) (ah rfl)), ?_⟩; refine ⟨_, rfl, ?_⟩)) | (apply Gh.move; (refine ⟨_, HStep.gT rfl rfl (Qs.move (ah rfl)), ?_⟩; refine ⟨_, rfl, ?_⟩)) | (apply Gh.load; (refine ⟨_, HStep.gT rfl rfl (Qs.loadEf (ah rfl) (tab_of rfl) rfl rfl), ?_⟩; refine ⟨_, rfl, ?_⟩)) | (apply Gh.fieldAddr; (refine ⟨_, HStep.gT rfl rfl (Qs.fldE (ah rfl) (tab_of rfl) rfl (tab_of rfl) rfl rfl), ?_⟩; refine ⟨_, rfl, ?_⟩)) | (apply Gh.indexAddr; (refine ⟨_, HStep.gT rfl rfl (Qs.indexN rfl (ah rfl) (tab_of rfl) (tab_of rfl) rfl (by first | omega | (simp; omega))), ?_⟩; refine ⟨_, rfl, ?_⟩)) | (apply Gh.sub; (refine ⟨_, HStep.gT rfl rfl (Qs.pred (ah rfl) (ah rfl) (by omega) (by omega)), ?_⟩; refine ⟨_, rfl, ?_⟩)) | (apply Gh.bin; (refine ⟨_, HStep.gT rfl rfl (Qs.cmpF rfl (ah rfl) (ah rfl) (by first | (simp only [cmpP, List.length_cons, List.length_nil]; omega) | (simp [cmpP]; done) | (simp [cmpP]; omega))), ?_⟩; refine ⟨_, rfl, ?_⟩)) | (apply Gh.callv; (refine ⟨_, HStep.gT rfl rfl (Qs.call (ah rfl) (RmCmp_abs (rtAt L (k - 1)).m (rtAt L k).m) (by first | ((repeat (first | exact ArgsLe.nil | refine ArgsLe.cons rfl (D.le.refl _) ?_ | refine ArgsLe.cons rfl D.le_nil ?_)); done) | fail)), ?_⟩; refine ⟨_, rfl, ?_⟩)))
        repeat (first | apply AWp.region | (refine AWs.q rfl rfl ?_; first | (apply Gt.move; refine ⟨_, Qs.move (ao rfl), ?_⟩) | (apply Gt.assign; refine ⟨_, Qs.assign (ao rfl), ?_⟩) | (apply Gt.add; refine ⟨_, Qs.succ (ao rfl) (ao rfl) (by omega), ?_⟩)) | apply AWl.nil | apply AThen.normal | apply AWp.skip | apply ABlock.normal | (apply Gc.cond; refine AWp.condF (ao rfl) ?_))
        refine ALoop.next (L.length - (k + 1)) (by omega) ⟨k + 1, by omega, rfl, fun j hj => ?_, rfl⟩ ?_
        ·rcases Nat.lt_succ_iff_lt_or_eq.1 hj with h | rfl
         ·exact hall j h
         ·exact ⟨htk, fun _ => hc⟩
        ·exact AS.le_of (by repeat (first | exact FrLe.nil | refine FrLe.cons rfl (AVle.d rfl) ?_)) (by repeat (exact HpLe.nil))
       ·have hno : ¬ ValidL L := fun h => hc ((h k hlt).2 h0)
        rw [decide_eq_false hno]
        repeat (first | apply AWp.seq | apply AWp.region | (refine AWs.q rfl rfl ?_; first | (apply Gt.move; refine ⟨_, Qs.move (ao rfl), ?_⟩) | (apply Gt.load; refine ⟨_, Qs.ldE (ao rfl) (tab_of rfl) rfl rfl, ?_⟩) | (apply Gt.fieldAddr; refine ⟨_, Qs.fldE (ao rfl) (tab_of rfl) rfl (tab_of rfl) rfl rfl, ?_⟩) | (apply Gt.indexAddr; refine ⟨_, Qs.indexN rfl (ao rfl) (tab_of rfl) (tab_of rfl) rfl (by first | omega | (simp; omega)), ?_⟩) | (apply Gt.len; refine ⟨_, Qs.lenN rfl (tab_of rfl), ?_⟩) | (apply Gt.bin; refine ⟨_, Qs.cmpT rfl (ao rfl) (ao rfl) (by first | (simp only [cmpP, List.length_cons, List.length_nil]; omega) | (simp [cmpP]; done) | (simp [cmpP]; omega)), ?_⟩) | (apply Gt.un; refine ⟨_, Qs.not (ao rfl), ?_⟩) | (apply Gt.pick; refine ⟨_, Qs.pickF (ao rfl) (ao rfl), ?_⟩) | (apply Gt.callv; refine ⟨_, Qs.call (ao rfl) (c1) (by first | ((repeat (first | exact ArgsLe.nil | refine ArgsLe.cons rfl (D.le.refl _) ?_ | refine ArgsLe.cons rfl D.le_nil ?_)); done) | fail), ?_⟩)) | (refine AWs.qG rfl rfl rfl rfl rfl ?_; first | (apply Gt.move; refine ⟨_, Qs.move (ao rfl), ?_⟩) | (apply Gt.load; first | refine ⟨_, Qs.loadEf (ao rfl) (tab_of rfl) rfl rfl, ?_⟩ | refine ⟨_, Qs.ldE (ao rfl) (tab_of rfl) rfl rfl, ?_⟩) | (apply Gt.fieldAddr; refine ⟨_, Qs.fldE (ao rfl) (tab_of rfl) rfl (tab_of rfl) rfl rfl, ?_⟩) | (apply Gt.indexAddr; refine ⟨_, Qs.indexN rfl (ao rfl) (tab_of rfl) (tab_of rfl) rfl (by first | omega | (simp; omega)), ?_⟩) | (apply Gt.bin; refine ⟨_, Qs.cmpF rfl (ao rfl) (ao rfl) (by first | (simp only [cmpP, List.length_cons, List.length_nil]; omega) | (simp [cmpP]; done) | (simp [cmpP]; omega)), ?_⟩) | (apply Gt.un; refine ⟨_, Qs.not (ao rfl), ?_⟩) | (apply Gt.callv; first | refine ⟨_, Qs.call (ao rfl) (c2) (by first | ((repeat (first | exact ArgsLe.nil | refine ArgsLe.cons rfl (D.le.refl _) ?_ | refine ArgsLe.cons rfl D.le_nil ?_)); done) | fail), ?_⟩ | refine ⟨_, Qs.call (ao rfl) (RmValidT_abs (rtAt L k).m hm) (by first | ((repeat (first | exact ArgsLe.nil | refine ArgsLe.cons rfl (D.le.refl _) ?_ | refine ArgsLe.cons rfl D.le_nil ?_)); done) | fail), ?_⟩)) | apply AWl.nil | apply AThen.normal | apply AWp.block | apply AWp.skip | (apply Gc.cond; first | refine AWp.condT (ao rfl) ?_ | refine AWp.condF (ao rfl) ?_))
        refine AWp.dr' (DrawOk.self (by kernel_rfl)) [[], [(35, 0)], [(36, 1)], [], [], [(39, 4)], [(38, 3), (40, 5)], [(41, 6)], [(42, 7)], [], [], [(44, 9), (45, 10)], [(46, 11)], [(47, 12)], [(43, 8), (48, 13)], [(49, 14)], [(37, 2), (50, 15)]] [[], [0], [0, 1], [0, 1, 2], [0, 1, 2], [0, 1, 2, 4], [0, 1, 2, 3, 4, 5], [0, 1, 2, 3, 4, 5, 6], [0, 1, 2, 3, 4, 5, 6, 7], [0, 1, 2], [0, 1, 2], [0, 1, 2, 9, 10], [0, 1, 2, 9, 10, 11], [0, 1, 2, 9, 10, 11, 12], [0, 1, 2, 3, 4, 5, 6, 7, 8, 9, 10, 11, 12, 13], [0, 1, 2, 3, 4, 5, 6, 7, 8, 9, 10, 11, 12, 13, 14], [0, 1, 2, 3, 4, 5, 6, 7, 8, 9, 10, 11, 12, 13, 14, 15]] rfl (by kernel_rfl) (by kernel_rfl) (by kernel_rfl) ?_
        repeat (first | refine ⟨_, rfl, ?_⟩ | (apply Gh.move; (refine ⟨_, HStep.q rfl (Qs.move (ah rfl)), ?_⟩; refine ⟨_, rfl, ?_⟩)) | (apply Gh.bin; (refine ⟨_, HStep.q rfl (Qs.cmpT rfl (ah rfl) (ah rfl) (by first | (simp only [cmpP, List.length_cons, List.length_nil]; omega) | (simp [cmpP]; done) | (simp [cmpP]; omega))), ?_⟩; refine ⟨_, rfl, ?_⟩)) | (apply Gh.pick; (refine ⟨_, HStep.q rfl (Qs.pickT (ah rfl) (ah rfl)), ?_⟩; refine ⟨_, rfl, ?_⟩)) | (apply Gh.move; (refine ⟨_, HStep.gT rfl rfl (Qs.move (ah rfl)), ?_⟩; refine ⟨_, rfl, ?_⟩)) | (apply Gh.load; (refine ⟨_, HStep.gT rfl rfl (Qs.loadEf (ah rfl) (tab_of rfl) rfl rfl), ?_⟩; refine ⟨_, rfl, ?_⟩)) | (apply Gh.fieldAddr; (refine ⟨_, HStep.gT rfl rfl (Qs.fldE (ah rfl) (tab_of rfl) rfl (tab_of rfl) rfl rfl), ?_⟩; refine ⟨_, rfl, ?_⟩)) | (apply Gh.indexAddr; (refine ⟨_, HStep.gT rfl rfl (Qs.indexN rfl (ah rfl) (tab_of rfl) (tab_of rfl) rfl (by first | omega | (simp; omega))), ?_⟩; refine ⟨_, rfl, ?_⟩)) | (apply Gh.sub; (refine ⟨_, HStep.gT rfl rfl (Qs.pred (ah rfl) (ah rfl) (by omega) (by omega)), ?_⟩; refine ⟨_, rfl, ?_⟩)) | (apply Gh.bin; (refine ⟨_, HStep.gT rfl rfl (Qs.cmpT rfl (ah rfl) (ah rfl) (by first | (simp only [cmpP, List.length_cons, List.length_nil]; omega) | (simp [cmpP]; done) | (simp [cmpP]; omega))), ?_⟩; refine ⟨_, rfl, ?_⟩)) | (apply Gh.callv; (refine ⟨_, HStep.gT rfl rfl (Qs.call (ah rfl) (RmCmp_abs (rtAt L (k - 1)).m (rtAt L k).m) (by first | ((repeat (first | exact ArgsLe.nil | refine ArgsLe.cons rfl (D.le.refl _) ?_ | refine ArgsLe.cons rfl D.le_nil ?_)); done) | fail)), ?_⟩; refine ⟨_, rfl, ?_⟩)))
        repeat (first | apply AWp.seq | apply AWp.region | (refine AWs.q rfl rfl ?_; (apply Gt.assign; refine ⟨_, Qs.assign (ao rfl), ?_⟩)) | apply AWl.nil | apply AThen.normal | apply AWp.ret | apply AThen.ret | apply ABlock.ret | apply ALoop.ret | (apply Gc.cond; refine AWp.condT (ao rfl) ?_))
        exact Fin.ret (Rets.of1 (ResV.tmp rfl rfl) (D.le.refl _))
     ·have hno : ¬ ValidL L := fun h => hm (h k hlt).1.2.2
      rw [decide_eq_false hno]
      repeat (first | apply AWp.seq | apply AWp.region | (refine AWs.q rfl rfl ?_; first | (apply Gt.move; refine ⟨_, Qs.move (ao rfl), ?_⟩) | (apply Gt.assign; refine ⟨_, Qs.assign (ao rfl), ?_⟩) | (apply Gt.load; refine ⟨_, Qs.ldE (ao rfl) (tab_of rfl) rfl rfl, ?_⟩) | (apply Gt.fieldAddr; refine ⟨_, Qs.fldE (ao rfl) (tab_of rfl) rfl (tab_of rfl) rfl rfl, ?_⟩) | (apply Gt.indexAddr; refine ⟨_, Qs.indexN rfl (ao rfl) (tab_of rfl) (tab_of rfl) rfl (by first | omega | (simp; omega)), ?_⟩) | (apply Gt.len; refine ⟨_, Qs.lenN rfl (tab_of rfl), ?_⟩) | (apply Gt.bin; refine ⟨_, Qs.cmpT rfl (ao rfl) (ao rfl) (by first | (simp only [cmpP, List.length_cons, List.length_nil]; omega) | (simp [cmpP]; done) | (simp [cmpP]; omega)), ?_⟩) | (apply Gt.un; refine ⟨_, Qs.not (ao rfl), ?_⟩) | (apply Gt.pick; refine ⟨_, Qs.pickF (ao rfl) (ao rfl), ?_⟩) | (apply Gt.callv; refine ⟨_, Qs.call (ao rfl) (c1) (by first | ((repeat (first | exact ArgsLe.nil | refine ArgsLe.cons rfl (D.le.refl _) ?_ | refine ArgsLe.cons rfl D.le_nil ?_)); done) | fail), ?_⟩)) | (refine AWs.qG rfl rfl rfl rfl rfl ?_; first | (apply Gt.move; refine ⟨_, Qs.move (ao rfl), ?_⟩) | (apply Gt.load; first | refine ⟨_, Qs.loadEf (ao rfl) (tab_of rfl) rfl rfl, ?_⟩ | refine ⟨_, Qs.ldE (ao rfl) (tab_of rfl) rfl rfl, ?_⟩) | (apply Gt.fieldAddr; refine ⟨_, Qs.fldE (ao rfl) (tab_of rfl) rfl (tab_of rfl) rfl rfl, ?_⟩) | (apply Gt.indexAddr; refine ⟨_, Qs.indexN rfl (ao rfl) (tab_of rfl) (tab_of rfl) rfl (by first | omega | (simp; omega)), ?_⟩) | (apply Gt.bin; refine ⟨_, Qs.cmpF rfl (ao rfl) (ao rfl) (by first | (simp only [cmpP, List.length_cons, List.length_nil]; omega) | (simp [cmpP]; done) | (simp [cmpP]; omega)), ?_⟩) | (apply Gt.un; refine ⟨_, Qs.not (ao rfl), ?_⟩) | (apply Gt.callv; first | refine ⟨_, Qs.call (ao rfl) (c2) (by first | ((repeat (first | exact ArgsLe.nil | refine ArgsLe.cons rfl (D.le.refl _) ?_ | refine ArgsLe.cons rfl D.le_nil ?_)); done) | fail), ?_⟩ | refine ⟨_, Qs.call (ao rfl) (RmValidF_abs (rtAt L k).m hm) (by first | ((repeat (first | exact ArgsLe.nil | refine ArgsLe.cons rfl (D.le.refl _) ?_ | refine ArgsLe.cons rfl D.le_nil ?_)); done) | fail), ?_⟩)) | apply AWl.nil | apply AThen.normal | apply AWp.block | apply AWp.skip | apply AWp.ret | apply AThen.ret | apply ABlock.ret | apply ALoop.ret | (apply Gc.cond; refine AWp.condT (ao rfl) ?_))
      exact Fin.ret (Rets.of1 (ResV.tmp rfl rfl) (D.le.refl _))
   ·rw [decide_eq_false hq] at c1
    have hno : ¬ ValidL L := fun h => hq (h k hlt).1.1
    rw [decide_eq_false hno]
    repeat (first | apply AWp.seq | apply AWp.region | (refine AWs.q rfl rfl ?_; first | (apply Gt.move; refine ⟨_, Qs.move (ao rfl), ?_⟩) | (apply Gt.assign; refine ⟨_, Qs.assign (ao rfl), ?_⟩) | (apply Gt.load; refine ⟨_, Qs.ldE (ao rfl) (tab_of rfl) rfl rfl, ?_⟩) | (apply Gt.fieldAddr; refine ⟨_, Qs.fldE (ao rfl) (tab_of rfl) rfl (tab_of rfl) rfl rfl, ?_⟩) | (apply Gt.indexAddr; refine ⟨_, Qs.indexN rfl (ao rfl) (tab_of rfl) (tab_of rfl) rfl (by first | omega | (simp; omega)), ?_⟩) | (apply Gt.len; refine ⟨_, Qs.lenN rfl (tab_of rfl), ?_⟩) | (apply Gt.bin; refine ⟨_, Qs.cmpT rfl (ao rfl) (ao rfl) (by first | (simp only [cmpP, List.length_cons, List.length_nil]; omega) | (simp [cmpP]; done) | (simp [cmpP]; omega)), ?_⟩) | (apply Gt.un; refine ⟨_, Qs.not (ao rfl), ?_⟩) | (apply Gt.pick; refine ⟨_, Qs.pickT (ao rfl) (ao rfl), ?_⟩) | (apply Gt.callv; refine ⟨_, Qs.call (ao rfl) (c1) (by first | ((repeat (first | exact ArgsLe.nil | refine ArgsLe.cons rfl (D.le.refl _) ?_ | refine ArgsLe.cons rfl D.le_nil ?_)); done) | fail), ?_⟩)) | refine AWs.sG rfl rfl rfl rfl rfl ?_ | apply AWl.nil | apply AThen.normal | apply AWp.block | apply AWp.skip | apply AWp.ret | apply AThen.ret | apply ABlock.ret | apply ALoop.ret | (apply Gc.cond; refine AWp.condT (ao rfl) ?_))
    exact Fin.ret (Rets.of1 (ResV.tmp rfl rfl) (D.le.refl _))
  ·obtain rfl : k = L.length := by omega
   have hyes : ValidL L := hall
   rw [decide_eq_true hyes]
   repeat (first | apply AWp.seq | apply AWp.region | (refine AWs.q rfl rfl ?_; first | (apply Gt.move; refine ⟨_, Qs.move (ao rfl), ?_⟩) | (apply Gt.assign; refine ⟨_, Qs.assign (ao rfl), ?_⟩) | (apply Gt.len; refine ⟨_, Qs.lenN rfl (tab_of rfl), ?_⟩) | (apply Gt.bin; refine ⟨_, Qs.cmpF rfl (ao rfl) (ao rfl) (by first | (simp only [cmpP, List.length_cons, List.length_nil]; omega) | (simp [cmpP]; done) | (simp [cmpP]; omega)), ?_⟩)) | apply AWl.nil | apply AThen.normal | apply AWp.exit | apply AWp.ret | apply AThen.exit | apply ABlock.hit | apply ALoop.exit | (apply Gc.cond; refine AWp.condF (ao rfl) ?_))
   exact Fin.ret (Rets.of1 (ResV.tmp rfl rfl) (D.le.refl _))
def ofT (t : Tm) : RTm := ⟨decide (t.c.num < 0), digs t.c.num.natAbs, decide ((t.c.den : Int) < 0), digs (t.c.den : Int).natAbs, t.m⟩
theorem polD_rt (P : List Tm) : polD P = rtD (P.map ofT) := by
 unfold polD rtD
 rw [List.map_map]
 rfl
theorem rtAt_of {P : List Tm} {k : Nat} (h : k < P.length) : rtAt (P.map ofT) k = ofT (tAt P k) := by
 unfold rtAt tAt
 rw [List.getD_eq_getElem?_getD, List.getElem?_map, List.getElem?_eq_getElem h]
 simp [List.getD_eq_getElem?_getD, List.getElem?_eq_getElem h]
theorem ofT_ok (t : Tm) : QOk (ofT t).b (ofT t).l (ofT t).b' (ofT t).l' := ⟨t.c, rfl, rfl, rfl, rfl⟩
theorem dec_at {P : List Tm} (h : Dec P) {k : Nat} (hk : k < P.length) (h0 : 0 < k) : 0 < lx (tAt P (k - 1)).m (tAt P k).m := by
 unfold Dec at h
 rw [List.pairwise_iff_getElem] at h
 have e : ∀ k (hk : k < P.length), tAt P k = P[k] := fun k hk => by simp [tAt, List.getD_eq_getElem?_getD, List.getElem?_eq_getElem hk]
 rw [e _ hk, e (k - 1) (by omega)]
 exact h (k - 1) k (by omega) hk (by omega)
theorem valid_of {P : List Tm} (h : Canon P) (hi : PIn P 0 65535) : ValidL (P.map ofT) := fun k hk => by
 rw [List.length_map] at hk
 rw [rtAt_of hk]
 refine ⟨⟨ofT_ok _, fun e => ?_, hi _ (tAt_mem hk)⟩, fun h0 => ?_⟩
 ·have h1 := h.2 _ (tAt_mem hk)
  have h2 : digs (tAt P k).c.num.natAbs = [] := e
  have := digs_length_zero.1 (show (digs (tAt P k).c.num.natAbs).length = 0 by rw [h2]; rfl)
  exact rnum_ne h1 (by omega)
 ·rw [rtAt_of (by omega)]
  show 0 < lex8 (tAt P (k - 1)).m (tAt P k).m
  rw [← lx_lex]
  exact dec_at h.1 hk h0
theorem rtSz_of {P : List Tm} {N : Nat} (h : PSz P N) (hN : N ≤ 1000000000) : rtSz (P.map ofT) := fun r hr => by
 obtain ⟨t, ht, rfl⟩ := List.mem_map.1 hr
 have := h t ht
 exact ⟨small_digs _, small_digs _, Nat.le_trans this.1 hN, Nat.le_trans this.2 hN⟩
open Classical in
theorem PValidP_abs (P : List Tm) (N : Nat) (h : Canon P) (hi : PIn P 0 65535) (hs : PSz P N) (hN : N ≤ 1000000000) (hn : P.length ≤ 1000000) : Abs Tryz.prog 14 [polD P] (ex (.bool true)) := by
 have := PValid_abs (P.map ofT) (rtSz_of hs hN) (by simpa using hn)
 rw [decide_eq_true (valid_of h hi)] at this
 rw [polD_rt]
 exact this
open Classical in
theorem RPValidP_abs (P : List Tm) (N : Nat) (h : Canon P) (hi : PIn P 0 65535) (hs : PSz P N) (hN : N ≤ 1000000000) (hn : P.length ≤ 1000000) : Abs Tryz.prog 15 [polD P] (ex (.bool true)) := by
 have := RPValid_abs (P.map ofT) (rtSz_of hs hN) (by simpa using hn)
 rw [decide_eq_true (valid_of h hi)] at this
 rw [polD_rt]
 exact this
end Go.Proofs.YteicdddphdomkaaGreat
namespace Go.Proofs.YteicdddphdomkaaGreat
open Go.RowKit
set_option maxRecDepth 100000
theorem RConst_abs (c : Rat) : Abs Tryz.prog 63 [agD (ratC c)] (polD (constL c)) := by
 by_cases hz : c = 0
 ·have hs := num_sign0.2 hz
  refine Abs.intro Tryz.func63 rfl (callFunc_run Tryz.func63 (by kernel_rfl) (by kernel_rfl)) rfl fun s0 => ?_
  rw [Tryz.ntmps63]
  repeat (first | apply AWp.seq | apply AWp.region | (apply Ga.box; refine AWs.bx (ao rfl) rfl rfl rfl rfl ?_) | (refine AWs.q rfl rfl ?_; first | (apply Gt.assign; refine ⟨_, Qs.assign (ao rfl), ?_⟩) | (apply Gt.load; refine ⟨_, Qs.ldD (ao rfl) rfl (tab_of rfl) rfl rfl, ?_⟩) | (apply Gt.bin; refine ⟨_, Qs.cmpT rfl (ao rfl) (ao rfl) (by first | (simp only [cmpP, List.length_cons, List.length_nil]; omega) | (simp [cmpP]; done) | (simp [cmpP]; omega)), ?_⟩) | (apply Gt.callv; refine ⟨_, Qs.call (ao rfl) (RSign_abs c) (by first | ((repeat (first | exact ArgsLe.nil | refine ArgsLe.cons rfl (D.le.refl _) ?_ | refine ArgsLe.cons rfl D.le_nil ?_)); done) | fail), ?_⟩)) | apply AWl.nil | apply AThen.normal | apply AWp.ret | apply AThen.ret | (apply Gc.cond; refine AWp.condT (ao rfl) ?_))
  exact Fin.ret (Rets.of1 (ResV.tmp rfl rfl) (D.le.trans D.le_nilP (D.le_pol (by rw [constL, if_pos hz]))))
 ·have hs : c.num.sign ≠ 0 := fun e => hz (num_sign0.1 e)
  refine Abs.intro Tryz.func63 rfl (callFunc_run Tryz.func63 (by kernel_rfl) (by kernel_rfl)) rfl fun s0 => ?_
  rw [Tryz.ntmps63]
  repeat (first | apply AWp.seq | apply AWp.region | (apply Ga.box; refine AWs.bx (ao rfl) rfl rfl rfl rfl ?_) | (refine AWs.q rfl rfl ?_; first | (apply Gt.assign; refine ⟨_, Qs.assign (ao rfl), ?_⟩) | (apply Gt.load; refine ⟨_, Qs.ldD (ao rfl) rfl (tab_of rfl) rfl rfl, ?_⟩) | (apply Gt.bin; refine ⟨_, Qs.cmpF rfl (ao rfl) (ao rfl) (by first | (simp only [cmpP, List.length_cons, List.length_nil]; omega) | (simp [cmpP]; done) | (simp [cmpP]; omega)), ?_⟩) | (apply Gt.bslice; refine ⟨_, Bq.slice1 (ao rfl) (tab_of rfl) (tab_of rfl) rfl rfl rfl rfl rfl, ?_⟩) | (apply Gt.build; (refine Bq.build (tab_of rfl) rfl rfl rfl ?_; (repeat ((first | refine ⟨_, PartOk.ag (ao rfl), ?_⟩ | refine ⟨_, PartOk.one rfl (by first | exact One.ex_ rfl | exact One.sl | exact One.ep), ?_⟩); refine ⟨_, rfl, ?_⟩)); refine ⟨_, rfl, ?_⟩)) | (apply Gt.callv; refine ⟨_, Qs.call (ao rfl) (RSign_abs c) (by first | ((repeat (first | exact ArgsLe.nil | refine ArgsLe.cons rfl (D.le.refl _) ?_ | refine ArgsLe.cons rfl D.le_nil ?_)); done) | fail), ?_⟩)) | apply AWl.nil | apply AThen.normal | apply AWp.skip | apply AWp.ret | (apply Gc.cond; refine AWp.condF (ao rfl) ?_))
  exact Fin.ret (Rets.of1 (ResV.tmp rfl rfl) (D.le.of_eq (by rw [constL, if_neg hz]; rfl)))
theorem RInt_abs (n : Int) (h0 : -9223372036854775808 ≤ n) (h1 : n ≤ 9223372036854775807) : Abs Tryz.prog 64 [ex (.int .i64 n)] (polD (constL n)) := by
 refine Abs.intro Tryz.func64 rfl (callFunc_run Tryz.func64 (by kernel_rfl) (by kernel_rfl)) rfl fun s0 => ?_
 rw [Tryz.ntmps64]
 repeat (first | apply AWp.seq | apply AWp.region | (refine AWs.q rfl rfl ?_; first | (apply Gt.move; refine ⟨_, Qs.move (ao rfl), ?_⟩) | (apply Gt.assign; refine ⟨_, Qs.assign (ao rfl), ?_⟩) | (apply Gt.callv; first | refine ⟨_, Qs.call (ao rfl) (RWhole_abs n h0 h1) (by first | ((repeat (first | exact ArgsLe.nil | refine ArgsLe.cons rfl (D.le.refl _) ?_ | refine ArgsLe.cons rfl D.le_nil ?_)); done) | fail), ?_⟩ | refine ⟨_, Qs.call (ao rfl) (RConst_abs n) (by first | ((repeat (first | exact ArgsLe.nil | refine ArgsLe.cons rfl (D.le.refl _) ?_ | refine ArgsLe.cons rfl D.le_nil ?_)); done) | fail), ?_⟩)) | apply AWl.nil | apply AThen.normal | apply AWp.ret)
 exact Fin.ret (Rets.of1 (ResV.tmp rfl rfl) (D.le.refl _))
theorem RVar_abs (i : Nat) (hi : i < 8) : Abs Tryz.prog 116 [ex (.int .i64 (i : Nat))] (tupD [polD [⟨1, unitE i⟩], ex (.int .i64 0)]) := by
 refine Abs.intro Tryz.func116 rfl (callFunc_run Tryz.func116 (by kernel_rfl) (by kernel_rfl)) rfl fun s0 => ?_
 rw [Tryz.ntmps116]
 repeat (first | apply AWp.seq | apply AWp.region | (apply Ga.alloc; refine AWs.al (tab_of rfl) rfl rfl rfl rfl rfl rfl ?_) | (apply Ga.store; refine AWs.stF (ao rfl) (ao rfl) rfl (tab_of rfl) rfl rfl rfl ?_) | (refine AWs.q rfl rfl ?_; first | (apply Gt.move; refine ⟨_, Qs.move (ao rfl), ?_⟩) | (apply Gt.assign; refine ⟨_, Qs.assign (ao rfl), ?_⟩) | (apply Gt.indexAddr; refine ⟨_, Qs.ixP (ao rfl) (ao rfl) (tab_of rfl) (tab_of rfl) (by first | omega | (simp; omega)), ?_⟩) | (apply Gt.bin; refine ⟨_, Qs.cmpF rfl (ao rfl) (ao rfl) (by first | (simp only [cmpP, List.length_cons, List.length_nil]; omega) | (simp [cmpP]; done) | (simp [cmpP]; omega)), ?_⟩) | (apply Gt.pick; refine ⟨_, Qs.pickF (ao rfl) (ao rfl), ?_⟩) | (apply Gt.build; (refine Bq.arr (tab_of rfl) (tab_of rfl) rfl rfl ?_; (repeat ((first | refine ⟨_, PartOk.ag (ao rfl), ?_⟩ | refine ⟨_, PartOk.one rfl (by first | exact One.ex_ rfl | exact One.sl | exact One.ep), ?_⟩); refine ⟨_, rfl, ?_⟩)); refine ⟨_, rfl, ?_⟩))) | (refine AWs.qG rfl rfl rfl rfl rfl ?_; first | (apply Gt.move; refine ⟨_, Qs.move (ao rfl), ?_⟩) | (apply Gt.bin; refine ⟨_, Qs.cmpF rfl (ao rfl) (ao rfl) (by first | (simp only [cmpP, List.length_cons, List.length_nil]; omega) | (simp [cmpP]; done) | (simp [cmpP]; omega)), ?_⟩)) | apply AWl.nil | apply AThen.normal | apply AWp.skip | (apply Gc.cond; refine AWp.condF (ao rfl) ?_))
 refine AWl.fold 0 (monC fun _ => 0) rfl rfl rfl ?_
 repeat (first | apply AWp.seq | (apply Ga.store; refine AWs.stX1 (ao rfl) (ao rfl) rfl (tab_of rfl) (by first | exact One.ex_ rfl | exact One.sl | exact One.ep) (SetAt.mon (by first | omega | (simp; omega))) rfl ?_) | apply AWl.nil | apply AThen.normal)
 refine AWp.dr' (DrawOk.self (by kernel_rfl)) [[], [], [(14, 0), (15, 1)], [(16, 2)]] [[], [], [0, 1], [0, 1, 2]] rfl (by kernel_rfl) (by kernel_rfl) (by kernel_rfl) ?_
 repeat (first | refine ⟨_, rfl, ?_⟩ | (apply Gh.load; (refine ⟨_, HStep.q rfl (Qs.ldD (ah rfl) rfl (tab_of rfl) rfl rfl), ?_⟩; refine ⟨_, rfl, ?_⟩)) | (apply Gh.bslice; (refine ⟨_, HStep.q rfl (Bq.slice1 (ah rfl) (tab_of rfl) (tab_of rfl) rfl rfl rfl rfl rfl), ?_⟩; refine ⟨_, rfl, ?_⟩)) | (apply Gh.build; (refine Hq rfl ?_; refine Bq.build (tab_of rfl) rfl rfl rfl ?_; (repeat ((first | refine ⟨_, PartOk.ag (ah rfl), ?_⟩ | refine ⟨_, PartOk.one rfl (by first | exact One.ex_ rfl | exact One.sl | exact One.ep), ?_⟩); refine ⟨_, rfl, ?_⟩)); refine ⟨_, rfl, ?_⟩; refine ⟨_, rfl, ?_⟩)) | (apply Gh.callv; (refine ⟨_, HStep.q rfl (Qs.call (ah rfl) (RWhole_abs 1 (by omega) (by omega)) (by first | ((repeat (first | exact ArgsLe.nil | refine ArgsLe.cons rfl (D.le.refl _) ?_ | refine ArgsLe.cons rfl D.le_nil ?_)); done) | fail)), ?_⟩; refine ⟨_, rfl, ?_⟩)))
 repeat (first | (refine AWs.q rfl rfl ?_; (apply Gt.assign; refine ⟨_, Qs.assign (ao rfl), ?_⟩)) | apply AWl.nil | apply AThen.normal | apply AWp.ret)
 exact Fin.ret (Rets.of2 (ResV.tmp rfl rfl) (ResV.tmp rfl rfl) (D.le.tup2 (D.le.refl _) (D.le.refl _)))
theorem RX_abs (i : Nat) (hi : i < 8) : Abs Tryz.prog 49 [ex (.int .i64 (i : Nat))] (polD [⟨1, unitE i⟩]) := by
 refine Abs.intro Tryz.func49 rfl (callFunc_run Tryz.func49 (by kernel_rfl) (by kernel_rfl)) rfl fun s0 => ?_
 rw [Tryz.ntmps49]
 repeat (first | apply AWp.seq | apply AWp.region | (refine AWs.q rfl rfl ?_; first | (apply Gt.move; refine ⟨_, Qs.move (ao rfl), ?_⟩) | (apply Gt.assign; refine ⟨_, Qs.assign (ao rfl), ?_⟩) | (apply Gt.ext; refine ⟨_, Qs.ext (ao rfl) rfl, ?_⟩) | (apply Gt.callv; refine ⟨_, Qs.call (ao rfl) (RVar_abs i hi) (by first | ((repeat (first | exact ArgsLe.nil | refine ArgsLe.cons rfl (D.le.refl _) ?_ | refine ArgsLe.cons rfl D.le_nil ?_)); done) | fail), ?_⟩)) | apply AWl.nil | apply AThen.normal | apply AWp.ret)
 exact Fin.ret (Rets.of1 (ResV.tmp rfl rfl) (D.le.refl _))
def mixM (a b : Nat → Int) (k : Nat) : Nat → Int := fun j => if j < k then a j + b j else a j
theorem mixM_set (a b : Nat → Int) (k : Nat) : setM (mixM a b k) k (a k + b k) = mixM a b (k + 1) := by
 funext j
 simp only [setM, mixM]
 rcases Nat.lt_trichotomy j k with h | h | h
 ·rw [if_neg (by omega), if_pos h, if_pos (by omega)]
 ·subst h; simp
 ·rw [if_neg (by omega), if_neg (by omega), if_neg (by omega)]
theorem mixM_at (a b : Nat → Int) (k : Nat) : mixM a b k k = a k := if_neg (Nat.lt_irrefl k)
theorem RmMul_abs (a b : Nat → Int) (ha : In8 a 0 65535) (hb : In8 b 0 65535) (h : In8 (add8 a b) 0 65535) : Abs Tryz.prog 36 [agD (monC a), agD (monC b)] (tupD [agD (monC (add8 a b)), ex (.int .i64 0)]) := by
 refine Abs.intro Tryz.func36 rfl (callFunc_run Tryz.func36 (by kernel_rfl) (by kernel_rfl)) rfl fun s0 => ?_
 rw [Tryz.ntmps36]
 repeat (first | apply AWp.seq | apply AWp.region | (apply Ga.alloc; refine AWs.al (tab_of rfl) rfl rfl rfl rfl rfl rfl ?_) | (apply Ga.box; refine AWs.bx (ao rfl) rfl rfl rfl rfl ?_) | (refine AWs.q rfl rfl ?_; (apply Gt.assign; refine ⟨_, Qs.assign (ao rfl), ?_⟩)) | apply AWl.nil | apply AThen.normal | apply AWp.block)
 refine AWp.loop (fun mz σ => ∃ k, k ≤ 8 ∧ mz = 8 - k ∧ σ = ⟨[(2, .ptr 0 0), (3, .ptr 1 0), (4, .ptr 2 0), (6, .d (ex (.int .i64 (k : Nat))))], [.var 31 ((monC (mixM a b k)).map .d), .var 31 ((monC b).map .d), .var 31 ((monC fun _ => 0).map .d)]⟩) ?le ⟨0, by omega, rfl, rfl⟩ ?round
 case le => exact AS.le_of (by repeat (first | exact FrLe.nil | refine FrLe.cons rfl (AVle.d rfl) ?_ | refine FrLe.cons rfl (AVle.ptr rfl) ?_)) (by repeat (first | exact HpLe.nil | refine HpLe.cons (OwLe.varD rfl) ?_))
 case round =>
  rintro mz _ ⟨k, hk, rfl, rfl⟩
  by_cases hlt : k < 8
  ·have h1 := mixM_at a b k
   have h2 := ha k hlt
   have h3 := hb k hlt
   repeat (first | apply AWp.seq | apply AWp.region | (refine AWs.q rfl rfl ?_; first | (apply Gt.move; refine ⟨_, Qs.move (ao rfl), ?_⟩) | (apply Gt.bin; refine ⟨_, Qs.cmpT rfl (ao rfl) (ao rfl) (by first | (simp only [cmpP, List.length_cons, List.length_nil]; omega) | (simp [cmpP]; done) | (simp [cmpP]; omega)), ?_⟩)) | apply AWl.nil | apply AThen.normal | apply AWp.block | apply AWp.skip | (apply Gc.cond; refine AWp.condT (ao rfl) ?_))
   refine AWp.dr' (DrawOk.self (by kernel_rfl)) [[], [(11, 0)], [(12, 1)], [], [(14, 3)], [(15, 4)], [(13, 2), (16, 5)], [(11, 0)]] [[], [0], [0, 1], [], [3], [3, 4], [0, 1, 2, 3, 4, 5], [0, 1, 2, 3, 4, 5, 6]] rfl (by kernel_rfl) (by kernel_rfl) (by kernel_rfl) ?_
   repeat (first | refine ⟨_, rfl, ?_⟩ | (apply Gh.move; (refine ⟨_, HStep.q rfl (Qs.move (ah rfl)), ?_⟩; refine ⟨_, rfl, ?_⟩)) | (apply Gh.load; (refine ⟨_, HStep.q rfl (Qs.ldX1 (ah rfl) rfl (tab_of rfl) rfl (CellAt.mon0 (by first | omega | (simp; omega)))), ?_⟩; refine ⟨_, rfl, ?_⟩)) | (apply Gh.indexAddr; (refine ⟨_, HStep.q rfl (Qs.ixP (ah rfl) (ah rfl) (tab_of rfl) (tab_of rfl) (by first | omega | (simp; omega))), ?_⟩; refine ⟨_, rfl, ?_⟩)) | (apply Gh.add; (refine ⟨_, HStep.q rfl (Qs.add (ah rfl) (ah rfl) (by omega) (by omega)), ?_⟩; refine ⟨_, rfl, ?_⟩)))
   repeat (first | apply AWp.region | (apply Ga.store; refine AWs.stX1 (ao rfl) (ao rfl) rfl (tab_of rfl) (by first | exact One.ex_ rfl | exact One.sl | exact One.ep) (SetAt.mon (by first | omega | (simp; omega))) rfl ?_) | (refine AWs.q rfl rfl ?_; first | (apply Gt.move; refine ⟨_, Qs.move (ao rfl), ?_⟩) | (apply Gt.assign; refine ⟨_, Qs.assign (ao rfl), ?_⟩) | (apply Gt.add; refine ⟨_, Qs.succ (ao rfl) (ao rfl) (by omega), ?_⟩)) | apply AWl.nil | apply AThen.normal | apply ABlock.normal)
   refine ALoop.next (8 - (k + 1)) (by omega) ⟨k + 1, by omega, rfl, rfl⟩ ?_
   exact AS.le_of (by repeat (first | exact FrLe.nil | refine FrLe.cons rfl (AVle.d rfl) ?_ | refine FrLe.cons rfl (AVle.ptr rfl) ?_)) (by repeat (first | exact HpLe.nil | refine HpLe.cons (OwLe.varD (by rw [h1, mixM_set])) ?_ | refine HpLe.cons (OwLe.varD rfl) ?_))
  ·obtain rfl : k = 8 := by omega
   repeat (first | apply AWp.seq | apply AWp.region | (apply Ga.store; refine AWs.stF (ao rfl) (ao rfl) rfl (tab_of rfl) rfl rfl rfl ?_) | (refine AWs.q rfl rfl ?_; first | (apply Gt.move; refine ⟨_, Qs.move (ao rfl), ?_⟩) | (apply Gt.assign; refine ⟨_, Qs.assign (ao rfl), ?_⟩) | (apply Gt.load; refine ⟨_, Qs.ldD (ao rfl) rfl (tab_of rfl) rfl rfl, ?_⟩) | (apply Gt.bin; refine ⟨_, Qs.cmpF rfl (ao rfl) (ao rfl) (by first | (simp only [cmpP, List.length_cons, List.length_nil]; omega) | (simp [cmpP]; done) | (simp [cmpP]; omega)), ?_⟩) | (apply Gt.un; refine ⟨_, Qs.not (ao rfl), ?_⟩) | (apply Gt.callv; refine ⟨_, Qs.call (ao rfl) (RmValidT_abs (mixM a b 8) fun i hi => by have := h i hi; rw [mixM, if_pos hi]; exact this) (by first | ((repeat (first | exact ArgsLe.nil | refine ArgsLe.cons rfl (D.le.refl _) ?_ | refine ArgsLe.cons rfl D.le_nil ?_)); done) | fail), ?_⟩)) | apply AWl.nil | apply AThen.normal | apply AWp.skip | apply AWp.exit | apply AWp.ret | apply AThen.exit | apply ABlock.hit | apply ALoop.exit | (apply Gc.cond; refine AWp.condF (ao rfl) ?_))
   exact Fin.ret (Rets.of2 (ResV.cell rfl rfl (tab_of rfl) rfl rfl rfl) (ResV.tmp rfl rfl) (D.le.tup2 (D.le.refl _) (D.le.refl _)))
end Go.Proofs.YteicdddphdomkaaGreat
namespace Go.Proofs.YteicdddphdomkaaGreat
open Go.RowKit
set_option maxRecDepth 100000
theorem mrg_gt {s t : Tm} {P Q : List Tm} (h : lx s.m t.m = 1) : mrg (s :: P) (t :: Q) = s :: mrg P (t :: Q) := by
 rw [mrg, if_pos (show 0 < lx s.m t.m by omega)]
theorem mrg_lt {s t : Tm} {P Q : List Tm} (h : lx s.m t.m = -1) : mrg (s :: P) (t :: Q) = t :: mrg (s :: P) Q := by
 rw [mrg, if_neg (show ¬ 0 < lx s.m t.m by omega), if_pos (show lx s.m t.m < 0 by omega)]
theorem mrg_eq {s t : Tm} {P Q : List Tm} (h : lx s.m t.m = 0) : mrg (s :: P) (t :: Q) = if s.c + t.c = 0 then mrg P Q else ⟨s.c + t.c, s.m⟩ :: mrg P Q := by
 rw [mrg, if_neg (show ¬ 0 < lx s.m t.m by omega), if_neg (show ¬ lx s.m t.m < 0 by omega)]
theorem nil_mrg (Q : List Tm) : mrg [] Q = Q := by rw [mrg]
set_option maxHeartbeats 1000000 in
theorem RAdd_pol (P Q : List Tm) (N M : Nat) (hP : PSz P N) (hQ : PSz Q M) (hNM : N + M + 1 ≤ 4398046511103) (hn : P.length + Q.length ≤ 100000) : Abs Tryz.prog 56 [polD P, polD Q] (polD (mrg P Q)) := by
 refine Abs.intro Tryz.func56 rfl (callFunc_run Tryz.func56 (by kernel_rfl) (by kernel_rfl)) rfl fun s0 => ?_
 rw [Tryz.ntmps56]
 repeat (first | apply AWp.seq | apply AWp.region | (apply Ga.b0; refine AWs.b0 (tab_of rfl) (tab_of rfl) rfl rfl rfl rfl rfl ?_) | (refine AWs.q rfl rfl ?_; (apply Gt.assign; refine ⟨_, Qs.assign (ao rfl), ?_⟩)) | apply AWl.nil | apply AThen.normal | apply AWp.block)
 refine AWp.loop (fun mz σ => ∃ (i k : Nat) (R : List Tm), i ≤ P.length ∧ k ≤ Q.length ∧ R ++ mrg (P.drop i) (Q.drop k) = mrg P Q ∧ R.length ≤ i + k ∧ mz = (P.length - i) + (Q.length - k) ∧ σ = ⟨[(0, .d (polD P)), (1, .d (polD Q)), (5, .own 0), (6, .d (ex (.int .i64 (i : Nat)))), (7, .d (ex (.int .i64 (k : Nat))))], [.row 33 12 (R.map tmC)]⟩) ?le ⟨0, 0, [], by omega, by omega, rfl, by simp, rfl, rfl⟩ ?round
 case le => exact AS.le_of (by repeat (first | exact FrLe.nil | refine FrLe.cons rfl (AVle.d rfl) ?_ | refine FrLe.cons rfl (AVle.own rfl) ?_)) (by repeat (first | exact HpLe.nil | refine HpLe.cons (OwLe.row rfl) ?_))
 case round =>
  rintro mz _ ⟨i, k, R, hi, hk, heq, hl, rfl, rfl⟩
  by_cases hip : i < P.length
  ·have hdP := drop_tAt hip
   by_cases hkq : k < Q.length
   ·have hdQ := drop_tAt hkq
    rw [hdP, hdQ] at heq
    have hs := hP _ (tAt_mem hip)
    have ht := hQ _ (tAt_mem hkq)
    rcases lx_val (tAt P i).m (tAt Q k).m with hc | hc | hc
    ·have hc' : lex8 (tAt P i).m (tAt Q k).m = -1 := by rw [← lx_lex]; exact hc
     repeat (first | apply AWp.seq | apply AWp.region | (refine AWs.q rfl rfl ?_; first | (apply Gt.move; refine ⟨_, Qs.move (ao rfl), ?_⟩) | (apply Gt.len; refine ⟨_, Qs.lenN rfl (tab_of rfl), ?_⟩) | (apply Gt.bin; refine ⟨_, Qs.cmpT rfl (ao rfl) (ao rfl) (by first | (simp only [cmpP, List.length_cons, List.length_nil]; omega) | (simp [cmpP]; done) | (simp [cmpP]; omega)), ?_⟩) | (apply Gt.pick; refine ⟨_, Qs.pickT (ao rfl) (ao rfl), ?_⟩)) | refine AWs.sG rfl rfl rfl rfl rfl ?_ | apply AWl.nil | apply AThen.normal | apply AWp.block | apply AWp.skip | (apply Gc.cond; refine AWp.condT (ao rfl) ?_))
     refine AWp.dr' (DrawOk.self (by kernel_rfl)) [[], [], [(21, 1)], [(20, 0), (22, 2)], [(23, 3)], [], [], [(26, 6)], [(25, 5), (27, 7)], [(28, 8)], [], [], [(30, 10), (31, 11)], [(32, 12)], [(33, 13)], [], [], [(35, 15), (36, 16)], [(37, 17)], [(38, 18)], [(34, 14), (39, 19)], [(40, 20)], [(29, 9), (41, 21)], [(24, 4), (42, 22)]] [[], [], [1], [0, 1, 2], [0, 1, 2, 3], [0, 1, 2, 3, 4], [0, 1, 2, 3, 4], [0, 1, 2, 3, 4, 6], [0, 1, 2, 3, 4, 5, 6, 7], [0, 1, 2, 3, 4, 5, 6, 7, 8], [0, 1, 2, 3, 4, 5, 6, 7, 8, 9], [0, 1, 2, 3, 4, 5, 6, 7, 8, 9], [0, 1, 2, 3, 4, 5, 6, 7, 8, 9, 10, 11], [0, 1, 2, 3, 4, 5, 6, 7, 8, 9, 10, 11, 12], [0, 1, 2, 3, 4, 5, 6, 7, 8, 9, 10, 11, 12, 13], [0, 1, 2, 3, 4, 5, 6, 7, 8, 9], [0, 1, 2, 3, 4, 5, 6, 7, 8, 9], [0, 1, 2, 3, 4, 5, 6, 7, 8, 9, 15, 16], [0, 1, 2, 3, 4, 5, 6, 7, 8, 9, 15, 16, 17], [0, 1, 2, 3, 4, 5, 6, 7, 8, 9, 15, 16, 17, 18], [0, 1, 2, 3, 4, 5, 6, 7, 8, 9, 10, 11, 12, 13, 14, 15, 16, 17, 18, 19], [0, 1, 2, 3, 4, 5, 6, 7, 8, 9, 10, 11, 12, 13, 14, 15, 16, 17, 18, 19, 20], [0, 1, 2, 3, 4, 5, 6, 7, 8, 9, 10, 11, 12, 13, 14, 15, 16, 17, 18, 19, 20, 21], [0, 1, 2, 3, 4, 5, 6, 7, 8, 9, 10, 11, 12, 13, 14, 15, 16, 17, 18, 19, 20, 21, 22]] rfl (by kernel_rfl) (by kernel_rfl) (by kernel_rfl) ?_
     repeat (first | refine ⟨_, rfl, ?_⟩ | (apply Gh.move; (refine ⟨_, HStep.q rfl (Qs.move (ah rfl)), ?_⟩; refine ⟨_, rfl, ?_⟩)) | (apply Gh.len; (refine ⟨_, HStep.q rfl (Qs.lenN rfl (tab_of rfl)), ?_⟩; refine ⟨_, rfl, ?_⟩)) | (apply Gh.bin; (refine ⟨_, HStep.q rfl (Qs.cmpF rfl (ah rfl) (ah rfl) (by first | (simp only [cmpP, List.length_cons, List.length_nil]; omega) | (simp [cmpP]; done) | (simp [cmpP]; omega))), ?_⟩; refine ⟨_, rfl, ?_⟩)) | (apply Gh.pick; (refine ⟨_, HStep.q rfl (Qs.pickF (ah rfl) (ah rfl)), ?_⟩; refine ⟨_, rfl, ?_⟩)) | (apply Gh.move; (refine ⟨_, HStep.gT rfl rfl (Qs.move (ah rfl)), ?_⟩; refine ⟨_, rfl, ?_⟩)) | (apply Gh.load; (refine ⟨_, HStep.gT rfl rfl (Qs.loadEf (ah rfl) (tab_of rfl) rfl rfl), ?_⟩; refine ⟨_, rfl, ?_⟩)) | (apply Gh.fieldAddr; (refine ⟨_, HStep.gT rfl rfl (Qs.fldE (ah rfl) (tab_of rfl) rfl (tab_of rfl) rfl rfl), ?_⟩; refine ⟨_, rfl, ?_⟩)) | (apply Gh.indexAddr; (refine ⟨_, HStep.gT rfl rfl (Qs.indexN rfl (ah rfl) (tab_of rfl) (tab_of rfl) rfl (by first | omega | (simp; omega))), ?_⟩; refine ⟨_, rfl, ?_⟩)) | (apply Gh.len; (refine ⟨_, HStep.gT rfl rfl (Qs.lenN rfl (tab_of rfl)), ?_⟩; refine ⟨_, rfl, ?_⟩)) | (apply Gh.bin; first | (refine ⟨_, HStep.gT rfl rfl (Qs.cmpT rfl (ah rfl) (ah rfl) (by first | (simp only [cmpP, List.length_cons, List.length_nil]; omega) | (simp [cmpP]; done) | (simp [cmpP]; omega))), ?_⟩; refine ⟨_, rfl, ?_⟩) | (refine ⟨_, HStep.gT rfl rfl (Qs.cmpF rfl (ah rfl) (ah rfl) (by first | (simp only [cmpP, List.length_cons, List.length_nil]; omega) | (simp [cmpP]; done) | (simp [cmpP]; omega))), ?_⟩; refine ⟨_, rfl, ?_⟩)) | (apply Gh.pick; (refine ⟨_, HStep.gT rfl rfl (Qs.pickT (ah rfl) (ah rfl)), ?_⟩; refine ⟨_, rfl, ?_⟩)) | (apply Gh.callv; (refine ⟨_, HStep.gT rfl rfl (Qs.call (ah rfl) (RmCmp_abs (tAt P i).m (tAt Q k).m) (by first | ((repeat (first | exact ArgsLe.nil | refine ArgsLe.cons rfl (D.le.refl _) ?_ | refine ArgsLe.cons rfl D.le_nil ?_)); done) | fail)), ?_⟩; refine ⟨_, rfl, ?_⟩)))
     repeat (first | apply AWp.seq | apply AWl.nil | apply AThen.normal | apply AWp.skip | (apply Gc.cond; refine AWp.condF (ao rfl) ?_))
     refine AWp.dr' (DrawOk.self (by kernel_rfl)) [[], [], [(54, 1)], [(53, 0), (55, 2)], [(56, 3)], [], [], [(58, 5), (59, 6)], [(60, 7)], [(61, 8)], [], [], [(63, 10), (64, 11)], [(65, 12)], [(66, 13)], [(62, 9), (67, 14)], [(68, 15)], [(57, 4), (69, 16)]] [[], [], [1], [0, 1, 2], [0, 1, 2, 3], [0, 1, 2, 3, 4], [0, 1, 2, 3, 4], [0, 1, 2, 3, 4, 5, 6], [0, 1, 2, 3, 4, 5, 6, 7], [0, 1, 2, 3, 4, 5, 6, 7, 8], [0, 1, 2, 3, 4], [0, 1, 2, 3, 4], [0, 1, 2, 3, 4, 10, 11], [0, 1, 2, 3, 4, 10, 11, 12], [0, 1, 2, 3, 4, 10, 11, 12, 13], [0, 1, 2, 3, 4, 5, 6, 7, 8, 9, 10, 11, 12, 13, 14], [0, 1, 2, 3, 4, 5, 6, 7, 8, 9, 10, 11, 12, 13, 14, 15], [0, 1, 2, 3, 4, 5, 6, 7, 8, 9, 10, 11, 12, 13, 14, 15, 16]] rfl (by kernel_rfl) (by kernel_rfl) (by kernel_rfl) ?_
     repeat (first | refine ⟨_, rfl, ?_⟩ | (apply Gh.move; (refine ⟨_, HStep.q rfl (Qs.move (ah rfl)), ?_⟩; refine ⟨_, rfl, ?_⟩)) | (apply Gh.len; (refine ⟨_, HStep.q rfl (Qs.lenN rfl (tab_of rfl)), ?_⟩; refine ⟨_, rfl, ?_⟩)) | (apply Gh.bin; (refine ⟨_, HStep.q rfl (Qs.cmpF rfl (ah rfl) (ah rfl) (by first | (simp only [cmpP, List.length_cons, List.length_nil]; omega) | (simp [cmpP]; done) | (simp [cmpP]; omega))), ?_⟩; refine ⟨_, rfl, ?_⟩)) | (apply Gh.pick; (refine ⟨_, HStep.q rfl (Qs.pickF (ah rfl) (ah rfl)), ?_⟩; refine ⟨_, rfl, ?_⟩)) | (apply Gh.move; (refine ⟨_, HStep.gT rfl rfl (Qs.move (ah rfl)), ?_⟩; refine ⟨_, rfl, ?_⟩)) | (apply Gh.load; (refine ⟨_, HStep.gT rfl rfl (Qs.loadEf (ah rfl) (tab_of rfl) rfl rfl), ?_⟩; refine ⟨_, rfl, ?_⟩)) | (apply Gh.fieldAddr; (refine ⟨_, HStep.gT rfl rfl (Qs.fldE (ah rfl) (tab_of rfl) rfl (tab_of rfl) rfl rfl), ?_⟩; refine ⟨_, rfl, ?_⟩)) | (apply Gh.indexAddr; (refine ⟨_, HStep.gT rfl rfl (Qs.indexN rfl (ah rfl) (tab_of rfl) (tab_of rfl) rfl (by first | omega | (simp; omega))), ?_⟩; refine ⟨_, rfl, ?_⟩)) | (apply Gh.bin; (refine ⟨_, HStep.gT rfl rfl (Qs.cmpT rfl (ah rfl) (ah rfl) (by first | (simp only [cmpP, List.length_cons, List.length_nil]; omega) | (simp [cmpP]; done) | (simp [cmpP]; omega))), ?_⟩; refine ⟨_, rfl, ?_⟩)) | (apply Gh.callv; (refine ⟨_, HStep.gT rfl rfl (Qs.call (ah rfl) (RmCmp_abs (tAt P i).m (tAt Q k).m) (by first | ((repeat (first | exact ArgsLe.nil | refine ArgsLe.cons rfl (D.le.refl _) ?_ | refine ArgsLe.cons rfl D.le_nil ?_)); done) | fail)), ?_⟩; refine ⟨_, rfl, ?_⟩)))
     repeat (first | apply AWp.seq | apply AWp.region | (apply Ga.app; refine AWs.app (ao rfl) rfl rfl (tab_of rfl) (tab_of rfl) rfl rfl (by simp; omega) (by simp; omega) rfl (by first | ((repeat (first | exact PlainHp.nil | refine PlainHp.var ?_ | refine PlainHp.row ?_ | refine PlainHp.dead ?_)); done) | fail) rfl ?_) | (refine AWs.q rfl rfl ?_; first | (apply Gt.move; refine ⟨_, Qs.move (ao rfl), ?_⟩) | (apply Gt.assign; refine ⟨_, Qs.assign (ao rfl), ?_⟩) | (apply Gt.load; refine ⟨_, Qs.loadEf (ao rfl) (tab_of rfl) rfl rfl, ?_⟩) | (apply Gt.indexAddr; refine ⟨_, Qs.indexN rfl (ao rfl) (tab_of rfl) (tab_of rfl) rfl (by first | omega | (simp; omega)), ?_⟩) | (apply Gt.add; refine ⟨_, Qs.succ (ao rfl) (ao rfl) (by omega), ?_⟩) | (apply Gt.bslice; refine ⟨_, Bq.slice1 (ao rfl) (tab_of rfl) (tab_of rfl) rfl rfl rfl rfl rfl, ?_⟩)) | apply AWl.nil | apply AThen.normal | apply AWp.exit | apply AThen.exit | apply ABlock.hit | (apply Gc.cond; refine AWp.condT (ao rfl) ?_))
     refine ALoop.next ((P.length - i) + (Q.length - (k + 1))) (by omega) ⟨i, k + 1, R ++ [tAt Q k], by omega, by omega, ?_, by simp; omega, rfl, rfl⟩ ?_
     ·rw [mrg_lt hc] at heq
      rw [← heq, hdP]; simp
     ·exact AS.le_of (by repeat (first | exact FrLe.nil | refine FrLe.cons rfl (AVle.d rfl) ?_ | refine FrLe.cons rfl (AVle.own rfl) ?_)) (by repeat (first | exact HpLe.nil | refine HpLe.cons (OwLe.row (map_snoc tmC R (tAt Q k))) ?_))
    ·have hc' : lex8 (tAt P i).m (tAt Q k).m = 0 := by rw [← lx_lex]; exact hc
     by_cases hz : (tAt P i).c + (tAt Q k).c = 0
     ·have hsg := num_sign0.2 hz
      repeat (first | apply AWp.seq | apply AWp.region | (refine AWs.q rfl rfl ?_; first | (apply Gt.move; refine ⟨_, Qs.move (ao rfl), ?_⟩) | (apply Gt.len; refine ⟨_, Qs.lenN rfl (tab_of rfl), ?_⟩) | (apply Gt.bin; refine ⟨_, Qs.cmpT rfl (ao rfl) (ao rfl) (by first | (simp only [cmpP, List.length_cons, List.length_nil]; omega) | (simp [cmpP]; done) | (simp [cmpP]; omega)), ?_⟩) | (apply Gt.pick; refine ⟨_, Qs.pickT (ao rfl) (ao rfl), ?_⟩)) | refine AWs.sG rfl rfl rfl rfl rfl ?_ | apply AWl.nil | apply AThen.normal | apply AWp.block | apply AWp.skip | (apply Gc.cond; refine AWp.condT (ao rfl) ?_))
      refine AWp.dr' (DrawOk.self (by kernel_rfl)) [[], [], [(21, 1)], [(20, 0), (22, 2)], [(23, 3)], [], [], [(26, 6)], [(25, 5), (27, 7)], [(28, 8)], [], [], [(30, 10), (31, 11)], [(32, 12)], [(33, 13)], [], [], [(35, 15), (36, 16)], [(37, 17)], [(38, 18)], [(34, 14), (39, 19)], [(40, 20)], [(29, 9), (41, 21)], [(24, 4), (42, 22)]] [[], [], [1], [0, 1, 2], [0, 1, 2, 3], [0, 1, 2, 3, 4], [0, 1, 2, 3, 4], [0, 1, 2, 3, 4, 6], [0, 1, 2, 3, 4, 5, 6, 7], [0, 1, 2, 3, 4, 5, 6, 7, 8], [0, 1, 2, 3, 4, 5, 6, 7, 8, 9], [0, 1, 2, 3, 4, 5, 6, 7, 8, 9], [0, 1, 2, 3, 4, 5, 6, 7, 8, 9, 10, 11], [0, 1, 2, 3, 4, 5, 6, 7, 8, 9, 10, 11, 12], [0, 1, 2, 3, 4, 5, 6, 7, 8, 9, 10, 11, 12, 13], [0, 1, 2, 3, 4, 5, 6, 7, 8, 9], [0, 1, 2, 3, 4, 5, 6, 7, 8, 9], [0, 1, 2, 3, 4, 5, 6, 7, 8, 9, 15, 16], [0, 1, 2, 3, 4, 5, 6, 7, 8, 9, 15, 16, 17], [0, 1, 2, 3, 4, 5, 6, 7, 8, 9, 15, 16, 17, 18], [0, 1, 2, 3, 4, 5, 6, 7, 8, 9, 10, 11, 12, 13, 14, 15, 16, 17, 18, 19], [0, 1, 2, 3, 4, 5, 6, 7, 8, 9, 10, 11, 12, 13, 14, 15, 16, 17, 18, 19, 20], [0, 1, 2, 3, 4, 5, 6, 7, 8, 9, 10, 11, 12, 13, 14, 15, 16, 17, 18, 19, 20, 21], [0, 1, 2, 3, 4, 5, 6, 7, 8, 9, 10, 11, 12, 13, 14, 15, 16, 17, 18, 19, 20, 21, 22]] rfl (by kernel_rfl) (by kernel_rfl) (by kernel_rfl) ?_
      repeat (first | refine ⟨_, rfl, ?_⟩ | (apply Gh.move; (refine ⟨_, HStep.q rfl (Qs.move (ah rfl)), ?_⟩; refine ⟨_, rfl, ?_⟩)) | (apply Gh.len; (refine ⟨_, HStep.q rfl (Qs.lenN rfl (tab_of rfl)), ?_⟩; refine ⟨_, rfl, ?_⟩)) | (apply Gh.bin; (refine ⟨_, HStep.q rfl (Qs.cmpF rfl (ah rfl) (ah rfl) (by first | (simp only [cmpP, List.length_cons, List.length_nil]; omega) | (simp [cmpP]; done) | (simp [cmpP]; omega))), ?_⟩; refine ⟨_, rfl, ?_⟩)) | (apply Gh.pick; (refine ⟨_, HStep.q rfl (Qs.pickF (ah rfl) (ah rfl)), ?_⟩; refine ⟨_, rfl, ?_⟩)) | (apply Gh.move; (refine ⟨_, HStep.gT rfl rfl (Qs.move (ah rfl)), ?_⟩; refine ⟨_, rfl, ?_⟩)) | (apply Gh.load; (refine ⟨_, HStep.gT rfl rfl (Qs.loadEf (ah rfl) (tab_of rfl) rfl rfl), ?_⟩; refine ⟨_, rfl, ?_⟩)) | (apply Gh.fieldAddr; (refine ⟨_, HStep.gT rfl rfl (Qs.fldE (ah rfl) (tab_of rfl) rfl (tab_of rfl) rfl rfl), ?_⟩; refine ⟨_, rfl, ?_⟩)) | (apply Gh.indexAddr; (refine ⟨_, HStep.gT rfl rfl (Qs.indexN rfl (ah rfl) (tab_of rfl) (tab_of rfl) rfl (by first | omega | (simp; omega))), ?_⟩; refine ⟨_, rfl, ?_⟩)) | (apply Gh.len; (refine ⟨_, HStep.gT rfl rfl (Qs.lenN rfl (tab_of rfl)), ?_⟩; refine ⟨_, rfl, ?_⟩)) | (apply Gh.bin; first | (refine ⟨_, HStep.gT rfl rfl (Qs.cmpT rfl (ah rfl) (ah rfl) (by first | (simp only [cmpP, List.length_cons, List.length_nil]; omega) | (simp [cmpP]; done) | (simp [cmpP]; omega))), ?_⟩; refine ⟨_, rfl, ?_⟩) | (refine ⟨_, HStep.gT rfl rfl (Qs.cmpF rfl (ah rfl) (ah rfl) (by first | (simp only [cmpP, List.length_cons, List.length_nil]; omega) | (simp [cmpP]; done) | (simp [cmpP]; omega))), ?_⟩; refine ⟨_, rfl, ?_⟩)) | (apply Gh.pick; (refine ⟨_, HStep.gT rfl rfl (Qs.pickT (ah rfl) (ah rfl)), ?_⟩; refine ⟨_, rfl, ?_⟩)) | (apply Gh.callv; (refine ⟨_, HStep.gT rfl rfl (Qs.call (ah rfl) (RmCmp_abs (tAt P i).m (tAt Q k).m) (by first | ((repeat (first | exact ArgsLe.nil | refine ArgsLe.cons rfl (D.le.refl _) ?_ | refine ArgsLe.cons rfl D.le_nil ?_)); done) | fail)), ?_⟩; refine ⟨_, rfl, ?_⟩)))
      repeat (first | apply AWp.seq | apply AWl.nil | apply AThen.normal | apply AWp.skip | (apply Gc.cond; refine AWp.condF (ao rfl) ?_))
      refine AWp.dr' (DrawOk.self (by kernel_rfl)) [[], [], [(54, 1)], [(53, 0), (55, 2)], [(56, 3)], [], [], [(58, 5), (59, 6)], [(60, 7)], [(61, 8)], [], [], [(63, 10), (64, 11)], [(65, 12)], [(66, 13)], [(62, 9), (67, 14)], [(68, 15)], [(57, 4), (69, 16)]] [[], [], [1], [0, 1, 2], [0, 1, 2, 3], [0, 1, 2, 3, 4], [0, 1, 2, 3, 4], [0, 1, 2, 3, 4, 5, 6], [0, 1, 2, 3, 4, 5, 6, 7], [0, 1, 2, 3, 4, 5, 6, 7, 8], [0, 1, 2, 3, 4], [0, 1, 2, 3, 4], [0, 1, 2, 3, 4, 10, 11], [0, 1, 2, 3, 4, 10, 11, 12], [0, 1, 2, 3, 4, 10, 11, 12, 13], [0, 1, 2, 3, 4, 5, 6, 7, 8, 9, 10, 11, 12, 13, 14], [0, 1, 2, 3, 4, 5, 6, 7, 8, 9, 10, 11, 12, 13, 14, 15], [0, 1, 2, 3, 4, 5, 6, 7, 8, 9, 10, 11, 12, 13, 14, 15, 16]] rfl (by kernel_rfl) (by kernel_rfl) (by kernel_rfl) ?_
      repeat (first | refine ⟨_, rfl, ?_⟩ | (apply Gh.move; (refine ⟨_, HStep.q rfl (Qs.move (ah rfl)), ?_⟩; refine ⟨_, rfl, ?_⟩)) | (apply Gh.len; (refine ⟨_, HStep.q rfl (Qs.lenN rfl (tab_of rfl)), ?_⟩; refine ⟨_, rfl, ?_⟩)) | (apply Gh.bin; (refine ⟨_, HStep.q rfl (Qs.cmpF rfl (ah rfl) (ah rfl) (by first | (simp only [cmpP, List.length_cons, List.length_nil]; omega) | (simp [cmpP]; done) | (simp [cmpP]; omega))), ?_⟩; refine ⟨_, rfl, ?_⟩)) | (apply Gh.pick; (refine ⟨_, HStep.q rfl (Qs.pickF (ah rfl) (ah rfl)), ?_⟩; refine ⟨_, rfl, ?_⟩)) | (apply Gh.move; (refine ⟨_, HStep.gT rfl rfl (Qs.move (ah rfl)), ?_⟩; refine ⟨_, rfl, ?_⟩)) | (apply Gh.load; (refine ⟨_, HStep.gT rfl rfl (Qs.loadEf (ah rfl) (tab_of rfl) rfl rfl), ?_⟩; refine ⟨_, rfl, ?_⟩)) | (apply Gh.fieldAddr; (refine ⟨_, HStep.gT rfl rfl (Qs.fldE (ah rfl) (tab_of rfl) rfl (tab_of rfl) rfl rfl), ?_⟩; refine ⟨_, rfl, ?_⟩)) | (apply Gh.indexAddr; (refine ⟨_, HStep.gT rfl rfl (Qs.indexN rfl (ah rfl) (tab_of rfl) (tab_of rfl) rfl (by first | omega | (simp; omega))), ?_⟩; refine ⟨_, rfl, ?_⟩)) | (apply Gh.bin; (refine ⟨_, HStep.gT rfl rfl (Qs.cmpF rfl (ah rfl) (ah rfl) (by first | (simp only [cmpP, List.length_cons, List.length_nil]; omega) | (simp [cmpP]; done) | (simp [cmpP]; omega))), ?_⟩; refine ⟨_, rfl, ?_⟩)) | (apply Gh.callv; (refine ⟨_, HStep.gT rfl rfl (Qs.call (ah rfl) (RmCmp_abs (tAt P i).m (tAt Q k).m) (by first | ((repeat (first | exact ArgsLe.nil | refine ArgsLe.cons rfl (D.le.refl _) ?_ | refine ArgsLe.cons rfl D.le_nil ?_)); done) | fail)), ?_⟩; refine ⟨_, rfl, ?_⟩)))
      repeat (first | apply AWp.seq | apply AWl.nil | apply AThen.normal | apply AWp.skip | (apply Gc.cond; refine AWp.condF (ao rfl) ?_))
      refine AWp.dr' (DrawOk.self (by kernel_rfl)) [[], [], [(80, 0), (81, 1)], [(82, 2)], [(83, 3)], [], [], [(85, 5), (86, 6)], [(87, 7)], [(88, 8)], [(84, 4), (89, 9)], []] [[], [], [0, 1], [0, 1, 2], [0, 1, 2, 3], [], [], [5, 6], [5, 6, 7], [5, 6, 7, 8], [0, 1, 2, 3, 4, 5, 6, 7, 8, 9], []] rfl (by kernel_rfl) (by kernel_rfl) (by kernel_rfl) ?_
      repeat (first | refine ⟨_, rfl, ?_⟩ | (apply Gh.alloc; refine ⟨_, HStep.n rfl (tab_of rfl) rfl (by decide) rfl, ?_⟩; refine ⟨_, rfl, ?_⟩) | (apply Gh.move; (refine ⟨_, HStep.q rfl (Qs.move (ah rfl)), ?_⟩; refine ⟨_, rfl, ?_⟩)) | (apply Gh.load; (refine ⟨_, HStep.q rfl (Qs.ldE (ah rfl) (tab_of rfl) rfl rfl), ?_⟩; refine ⟨_, rfl, ?_⟩)) | (apply Gh.fieldAddr; (refine ⟨_, HStep.q rfl (Qs.fldE (ah rfl) (tab_of rfl) rfl (tab_of rfl) rfl rfl), ?_⟩; refine ⟨_, rfl, ?_⟩)) | (apply Gh.indexAddr; (refine ⟨_, HStep.q rfl (Qs.indexN rfl (ah rfl) (tab_of rfl) (tab_of rfl) rfl (by first | omega | (simp; omega))), ?_⟩; refine ⟨_, rfl, ?_⟩)) | (apply Gh.callv; (refine ⟨_, HStep.q rfl (Qs.call (ah rfl) (RAdd_abs (tAt P i).c (tAt Q k).c N M hs ht hNM) (by first | ((repeat (first | exact ArgsLe.nil | refine ArgsLe.cons rfl (D.le.refl _) ?_ | refine ArgsLe.cons rfl D.le_nil ?_)); done) | fail)), ?_⟩; refine ⟨_, rfl, ?_⟩)))
      repeat (first | apply AWp.seq | apply AWp.region | (apply Ga.store; refine AWs.stF (ao rfl) (ao rfl) rfl (tab_of rfl) rfl rfl rfl ?_) | (refine AWs.q rfl rfl ?_; first | (apply Gt.move; refine ⟨_, Qs.move (ao rfl), ?_⟩) | (apply Gt.assign; refine ⟨_, Qs.assign (ao rfl), ?_⟩) | (apply Gt.load; refine ⟨_, Qs.ldD (ao rfl) rfl (tab_of rfl) rfl rfl, ?_⟩) | (apply Gt.add; refine ⟨_, Qs.succ (ao rfl) (ao rfl) (by omega), ?_⟩) | (apply Gt.bin; refine ⟨_, Qs.cmpF rfl (ao rfl) (ao rfl) (by first | (simp only [cmpP, List.length_cons, List.length_nil]; omega) | (simp [cmpP]; done) | (simp [cmpP]; omega)), ?_⟩) | (apply Gt.callv; refine ⟨_, Qs.call (ao rfl) (RSign_abs ((tAt P i).c + (tAt Q k).c)) (by first | ((repeat (first | exact ArgsLe.nil | refine ArgsLe.cons rfl (D.le.refl _) ?_ | refine ArgsLe.cons rfl D.le_nil ?_)); done) | fail), ?_⟩)) | apply AWl.nil | apply AThen.normal | apply AWp.skip | apply ABlock.normal | (apply Gc.cond; refine AWp.condF (ao rfl) ?_))
      refine ALoop.next ((P.length - (i + 1)) + (Q.length - (k + 1))) (by omega) ⟨i + 1, k + 1, R, by omega, by omega, ?_, by omega, rfl, rfl⟩ ?_
      ·rw [mrg_eq hc, if_pos hz] at heq
       exact heq
      ·exact AS.le_of (by repeat (first | exact FrLe.nil | refine FrLe.cons rfl (AVle.d rfl) ?_ | refine FrLe.cons rfl (AVle.own rfl) ?_)) (by repeat (first | exact HpLe.nil | refine HpLe.cons (OwLe.row rfl) ?_))
     ·have hsg : ((tAt P i).c + (tAt Q k).c).num.sign ≠ 0 := fun e => hz (num_sign0.1 e)
      repeat (first | apply AWp.seq | apply AWp.region | (refine AWs.q rfl rfl ?_; first | (apply Gt.move; refine ⟨_, Qs.move (ao rfl), ?_⟩) | (apply Gt.len; refine ⟨_, Qs.lenN rfl (tab_of rfl), ?_⟩) | (apply Gt.bin; refine ⟨_, Qs.cmpT rfl (ao rfl) (ao rfl) (by first | (simp only [cmpP, List.length_cons, List.length_nil]; omega) | (simp [cmpP]; done) | (simp [cmpP]; omega)), ?_⟩) | (apply Gt.pick; refine ⟨_, Qs.pickT (ao rfl) (ao rfl), ?_⟩)) | refine AWs.sG rfl rfl rfl rfl rfl ?_ | apply AWl.nil | apply AThen.normal | apply AWp.block | apply AWp.skip | (apply Gc.cond; refine AWp.condT (ao rfl) ?_))
      refine AWp.dr' (DrawOk.self (by kernel_rfl)) [[], [], [(21, 1)], [(20, 0), (22, 2)], [(23, 3)], [], [], [(26, 6)], [(25, 5), (27, 7)], [(28, 8)], [], [], [(30, 10), (31, 11)], [(32, 12)], [(33, 13)], [], [], [(35, 15), (36, 16)], [(37, 17)], [(38, 18)], [(34, 14), (39, 19)], [(40, 20)], [(29, 9), (41, 21)], [(24, 4), (42, 22)]] [[], [], [1], [0, 1, 2], [0, 1, 2, 3], [0, 1, 2, 3, 4], [0, 1, 2, 3, 4], [0, 1, 2, 3, 4, 6], [0, 1, 2, 3, 4, 5, 6, 7], [0, 1, 2, 3, 4, 5, 6, 7, 8], [0, 1, 2, 3, 4, 5, 6, 7, 8, 9], [0, 1, 2, 3, 4, 5, 6, 7, 8, 9], [0, 1, 2, 3, 4, 5, 6, 7, 8, 9, 10, 11], [0, 1, 2, 3, 4, 5, 6, 7, 8, 9, 10, 11, 12], [0, 1, 2, 3, 4, 5, 6, 7, 8, 9, 10, 11, 12, 13], [0, 1, 2, 3, 4, 5, 6, 7, 8, 9], [0, 1, 2, 3, 4, 5, 6, 7, 8, 9], [0, 1, 2, 3, 4, 5, 6, 7, 8, 9, 15, 16], [0, 1, 2, 3, 4, 5, 6, 7, 8, 9, 15, 16, 17], [0, 1, 2, 3, 4, 5, 6, 7, 8, 9, 15, 16, 17, 18], [0, 1, 2, 3, 4, 5, 6, 7, 8, 9, 10, 11, 12, 13, 14, 15, 16, 17, 18, 19], [0, 1, 2, 3, 4, 5, 6, 7, 8, 9, 10, 11, 12, 13, 14, 15, 16, 17, 18, 19, 20], [0, 1, 2, 3, 4, 5, 6, 7, 8, 9, 10, 11, 12, 13, 14, 15, 16, 17, 18, 19, 20, 21], [0, 1, 2, 3, 4, 5, 6, 7, 8, 9, 10, 11, 12, 13, 14, 15, 16, 17, 18, 19, 20, 21, 22]] rfl (by kernel_rfl) (by kernel_rfl) (by kernel_rfl) ?_
      repeat (first | refine ⟨_, rfl, ?_⟩ | (apply Gh.move; (refine ⟨_, HStep.q rfl (Qs.move (ah rfl)), ?_⟩; refine ⟨_, rfl, ?_⟩)) | (apply Gh.len; (refine ⟨_, HStep.q rfl (Qs.lenN rfl (tab_of rfl)), ?_⟩; refine ⟨_, rfl, ?_⟩)) | (apply Gh.bin; (refine ⟨_, HStep.q rfl (Qs.cmpF rfl (ah rfl) (ah rfl) (by first | (simp only [cmpP, List.length_cons, List.length_nil]; omega) | (simp [cmpP]; done) | (simp [cmpP]; omega))), ?_⟩; refine ⟨_, rfl, ?_⟩)) | (apply Gh.pick; (refine ⟨_, HStep.q rfl (Qs.pickF (ah rfl) (ah rfl)), ?_⟩; refine ⟨_, rfl, ?_⟩)) | (apply Gh.move; (refine ⟨_, HStep.gT rfl rfl (Qs.move (ah rfl)), ?_⟩; refine ⟨_, rfl, ?_⟩)) | (apply Gh.load; (refine ⟨_, HStep.gT rfl rfl (Qs.loadEf (ah rfl) (tab_of rfl) rfl rfl), ?_⟩; refine ⟨_, rfl, ?_⟩)) | (apply Gh.fieldAddr; (refine ⟨_, HStep.gT rfl rfl (Qs.fldE (ah rfl) (tab_of rfl) rfl (tab_of rfl) rfl rfl), ?_⟩; refine ⟨_, rfl, ?_⟩)) | (apply Gh.indexAddr; (refine ⟨_, HStep.gT rfl rfl (Qs.indexN rfl (ah rfl) (tab_of rfl) (tab_of rfl) rfl (by first | omega | (simp; omega))), ?_⟩; refine ⟨_, rfl, ?_⟩)) | (apply Gh.len; (refine ⟨_, HStep.gT rfl rfl (Qs.lenN rfl (tab_of rfl)), ?_⟩; refine ⟨_, rfl, ?_⟩)) | (apply Gh.bin; first | (refine ⟨_, HStep.gT rfl rfl (Qs.cmpT rfl (ah rfl) (ah rfl) (by first | (simp only [cmpP, List.length_cons, List.length_nil]; omega) | (simp [cmpP]; done) | (simp [cmpP]; omega))), ?_⟩; refine ⟨_, rfl, ?_⟩) | (refine ⟨_, HStep.gT rfl rfl (Qs.cmpF rfl (ah rfl) (ah rfl) (by first | (simp only [cmpP, List.length_cons, List.length_nil]; omega) | (simp [cmpP]; done) | (simp [cmpP]; omega))), ?_⟩; refine ⟨_, rfl, ?_⟩)) | (apply Gh.pick; (refine ⟨_, HStep.gT rfl rfl (Qs.pickT (ah rfl) (ah rfl)), ?_⟩; refine ⟨_, rfl, ?_⟩)) | (apply Gh.callv; (refine ⟨_, HStep.gT rfl rfl (Qs.call (ah rfl) (RmCmp_abs (tAt P i).m (tAt Q k).m) (by first | ((repeat (first | exact ArgsLe.nil | refine ArgsLe.cons rfl (D.le.refl _) ?_ | refine ArgsLe.cons rfl D.le_nil ?_)); done) | fail)), ?_⟩; refine ⟨_, rfl, ?_⟩)))
      repeat (first | apply AWp.seq | apply AWl.nil | apply AThen.normal | apply AWp.skip | (apply Gc.cond; refine AWp.condF (ao rfl) ?_))
      refine AWp.dr' (DrawOk.self (by kernel_rfl)) [[], [], [(54, 1)], [(53, 0), (55, 2)], [(56, 3)], [], [], [(58, 5), (59, 6)], [(60, 7)], [(61, 8)], [], [], [(63, 10), (64, 11)], [(65, 12)], [(66, 13)], [(62, 9), (67, 14)], [(68, 15)], [(57, 4), (69, 16)]] [[], [], [1], [0, 1, 2], [0, 1, 2, 3], [0, 1, 2, 3, 4], [0, 1, 2, 3, 4], [0, 1, 2, 3, 4, 5, 6], [0, 1, 2, 3, 4, 5, 6, 7], [0, 1, 2, 3, 4, 5, 6, 7, 8], [0, 1, 2, 3, 4], [0, 1, 2, 3, 4], [0, 1, 2, 3, 4, 10, 11], [0, 1, 2, 3, 4, 10, 11, 12], [0, 1, 2, 3, 4, 10, 11, 12, 13], [0, 1, 2, 3, 4, 5, 6, 7, 8, 9, 10, 11, 12, 13, 14], [0, 1, 2, 3, 4, 5, 6, 7, 8, 9, 10, 11, 12, 13, 14, 15], [0, 1, 2, 3, 4, 5, 6, 7, 8, 9, 10, 11, 12, 13, 14, 15, 16]] rfl (by kernel_rfl) (by kernel_rfl) (by kernel_rfl) ?_
      repeat (first | refine ⟨_, rfl, ?_⟩ | (apply Gh.move; (refine ⟨_, HStep.q rfl (Qs.move (ah rfl)), ?_⟩; refine ⟨_, rfl, ?_⟩)) | (apply Gh.len; (refine ⟨_, HStep.q rfl (Qs.lenN rfl (tab_of rfl)), ?_⟩; refine ⟨_, rfl, ?_⟩)) | (apply Gh.bin; (refine ⟨_, HStep.q rfl (Qs.cmpF rfl (ah rfl) (ah rfl) (by first | (simp only [cmpP, List.length_cons, List.length_nil]; omega) | (simp [cmpP]; done) | (simp [cmpP]; omega))), ?_⟩; refine ⟨_, rfl, ?_⟩)) | (apply Gh.pick; (refine ⟨_, HStep.q rfl (Qs.pickF (ah rfl) (ah rfl)), ?_⟩; refine ⟨_, rfl, ?_⟩)) | (apply Gh.move; (refine ⟨_, HStep.gT rfl rfl (Qs.move (ah rfl)), ?_⟩; refine ⟨_, rfl, ?_⟩)) | (apply Gh.load; (refine ⟨_, HStep.gT rfl rfl (Qs.loadEf (ah rfl) (tab_of rfl) rfl rfl), ?_⟩; refine ⟨_, rfl, ?_⟩)) | (apply Gh.fieldAddr; (refine ⟨_, HStep.gT rfl rfl (Qs.fldE (ah rfl) (tab_of rfl) rfl (tab_of rfl) rfl rfl), ?_⟩; refine ⟨_, rfl, ?_⟩)) | (apply Gh.indexAddr; (refine ⟨_, HStep.gT rfl rfl (Qs.indexN rfl (ah rfl) (tab_of rfl) (tab_of rfl) rfl (by first | omega | (simp; omega))), ?_⟩; refine ⟨_, rfl, ?_⟩)) | (apply Gh.bin; (refine ⟨_, HStep.gT rfl rfl (Qs.cmpF rfl (ah rfl) (ah rfl) (by first | (simp only [cmpP, List.length_cons, List.length_nil]; omega) | (simp [cmpP]; done) | (simp [cmpP]; omega))), ?_⟩; refine ⟨_, rfl, ?_⟩)) | (apply Gh.callv; (refine ⟨_, HStep.gT rfl rfl (Qs.call (ah rfl) (RmCmp_abs (tAt P i).m (tAt Q k).m) (by first | ((repeat (first | exact ArgsLe.nil | refine ArgsLe.cons rfl (D.le.refl _) ?_ | refine ArgsLe.cons rfl D.le_nil ?_)); done) | fail)), ?_⟩; refine ⟨_, rfl, ?_⟩)))
      repeat (first | apply AWp.seq | apply AWl.nil | apply AThen.normal | apply AWp.skip | (apply Gc.cond; refine AWp.condF (ao rfl) ?_))
      refine AWp.dr' (DrawOk.self (by kernel_rfl)) [[], [], [(80, 0), (81, 1)], [(82, 2)], [(83, 3)], [], [], [(85, 5), (86, 6)], [(87, 7)], [(88, 8)], [(84, 4), (89, 9)], []] [[], [], [0, 1], [0, 1, 2], [0, 1, 2, 3], [], [], [5, 6], [5, 6, 7], [5, 6, 7, 8], [0, 1, 2, 3, 4, 5, 6, 7, 8, 9], []] rfl (by kernel_rfl) (by kernel_rfl) (by kernel_rfl) ?_
      repeat (first | refine ⟨_, rfl, ?_⟩ | (apply Gh.alloc; refine ⟨_, HStep.n rfl (tab_of rfl) rfl (by decide) rfl, ?_⟩; refine ⟨_, rfl, ?_⟩) | (apply Gh.move; (refine ⟨_, HStep.q rfl (Qs.move (ah rfl)), ?_⟩; refine ⟨_, rfl, ?_⟩)) | (apply Gh.load; (refine ⟨_, HStep.q rfl (Qs.ldE (ah rfl) (tab_of rfl) rfl rfl), ?_⟩; refine ⟨_, rfl, ?_⟩)) | (apply Gh.fieldAddr; (refine ⟨_, HStep.q rfl (Qs.fldE (ah rfl) (tab_of rfl) rfl (tab_of rfl) rfl rfl), ?_⟩; refine ⟨_, rfl, ?_⟩)) | (apply Gh.indexAddr; (refine ⟨_, HStep.q rfl (Qs.indexN rfl (ah rfl) (tab_of rfl) (tab_of rfl) rfl (by first | omega | (simp; omega))), ?_⟩; refine ⟨_, rfl, ?_⟩)) | (apply Gh.callv; (refine ⟨_, HStep.q rfl (Qs.call (ah rfl) (RAdd_abs (tAt P i).c (tAt Q k).c N M hs ht hNM) (by first | ((repeat (first | exact ArgsLe.nil | refine ArgsLe.cons rfl (D.le.refl _) ?_ | refine ArgsLe.cons rfl D.le_nil ?_)); done) | fail)), ?_⟩; refine ⟨_, rfl, ?_⟩)))
      repeat (first | apply AWp.seq | apply AWp.region | (apply Ga.store; refine AWs.stF (ao rfl) (ao rfl) rfl (tab_of rfl) rfl rfl rfl ?_) | (refine AWs.q rfl rfl ?_; first | (apply Gt.load; refine ⟨_, Qs.ldD (ao rfl) rfl (tab_of rfl) rfl rfl, ?_⟩) | (apply Gt.bin; refine ⟨_, Qs.cmpT rfl (ao rfl) (ao rfl) (by first | (simp only [cmpP, List.length_cons, List.length_nil]; omega) | (simp [cmpP]; done) | (simp [cmpP]; omega)), ?_⟩) | (apply Gt.callv; refine ⟨_, Qs.call (ao rfl) (RSign_abs ((tAt P i).c + (tAt Q k).c)) (by first | ((repeat (first | exact ArgsLe.nil | refine ArgsLe.cons rfl (D.le.refl _) ?_ | refine ArgsLe.cons rfl D.le_nil ?_)); done) | fail), ?_⟩)) | apply AWl.nil | apply AThen.normal | (apply Gc.cond; refine AWp.condT (ao rfl) ?_))
      refine AWp.dr' (DrawOk.self (by kernel_rfl)) [[], [], [], [], [(96, 2), (97, 3)], [(98, 4)], [(99, 5)], [(95, 1), (100, 6)], [(101, 7)]] [[], [], [], [], [2, 3], [2, 3, 4], [2, 3, 4, 5], [1, 2, 3, 4, 5, 6], [1, 2, 3, 4, 5, 6, 7]] rfl (by kernel_rfl) (by kernel_rfl) (by kernel_rfl) ?_
      repeat (first | refine ⟨_, rfl, ?_⟩ | (apply Gh.move; (refine ⟨_, HStep.q rfl (Qs.move (ah rfl)), ?_⟩; refine ⟨_, rfl, ?_⟩)) | (apply Gh.load; first | (refine ⟨_, HStep.q rfl (Qs.ldD (ah rfl) rfl (tab_of rfl) rfl rfl), ?_⟩; refine ⟨_, rfl, ?_⟩) | (refine ⟨_, HStep.q rfl (Qs.loadEf (ah rfl) (tab_of rfl) rfl rfl), ?_⟩; refine ⟨_, rfl, ?_⟩)) | (apply Gh.fieldAddr; (refine ⟨_, HStep.q rfl (Qs.fldE (ah rfl) (tab_of rfl) rfl (tab_of rfl) rfl rfl), ?_⟩; refine ⟨_, rfl, ?_⟩)) | (apply Gh.indexAddr; (refine ⟨_, HStep.q rfl (Qs.indexN rfl (ah rfl) (tab_of rfl) (tab_of rfl) rfl (by first | omega | (simp; omega))), ?_⟩; refine ⟨_, rfl, ?_⟩)) | (apply Gh.bslice; (refine ⟨_, HStep.q rfl (Bq.slice1 (ah rfl) (tab_of rfl) (tab_of rfl) rfl rfl rfl rfl rfl), ?_⟩; refine ⟨_, rfl, ?_⟩)) | (apply Gh.build; (refine Hq rfl ?_; refine Bq.build (tab_of rfl) rfl rfl rfl ?_; (repeat ((first | refine ⟨_, PartOk.ag (ah rfl), ?_⟩ | refine ⟨_, PartOk.one rfl (by first | exact One.ex_ rfl | exact One.sl | exact One.ep), ?_⟩); refine ⟨_, rfl, ?_⟩)); refine ⟨_, rfl, ?_⟩; refine ⟨_, rfl, ?_⟩)))
      repeat (first | apply AWp.seq | apply AWp.region | (apply Ga.app; refine AWs.app (ao rfl) rfl rfl (tab_of rfl) (tab_of rfl) rfl rfl (by simp; omega) (by simp; omega) rfl (by first | ((repeat (first | exact PlainHp.nil | refine PlainHp.var ?_ | refine PlainHp.row ?_ | refine PlainHp.dead ?_)); done) | fail) rfl ?_) | (refine AWs.q rfl rfl ?_; first | (apply Gt.move; refine ⟨_, Qs.move (ao rfl), ?_⟩) | (apply Gt.assign; refine ⟨_, Qs.assign (ao rfl), ?_⟩) | (apply Gt.add; refine ⟨_, Qs.succ (ao rfl) (ao rfl) (by omega), ?_⟩)) | apply AWl.nil | apply AThen.normal | apply ABlock.normal)
      refine ALoop.next ((P.length - (i + 1)) + (Q.length - (k + 1))) (by omega) ⟨i + 1, k + 1, R ++ [⟨(tAt P i).c + (tAt Q k).c, (tAt P i).m⟩], by omega, by omega, ?_, by simp; omega, rfl, rfl⟩ ?_
      ·rw [mrg_eq hc, if_neg hz] at heq
       rw [← heq]; simp
      ·exact AS.le_of (by repeat (first | exact FrLe.nil | refine FrLe.cons rfl (AVle.d rfl) ?_ | refine FrLe.cons rfl (AVle.own rfl) ?_)) (by repeat (first | exact HpLe.nil | refine HpLe.cons (OwLe.row (map_snoc tmC R ⟨(tAt P i).c + (tAt Q k).c, (tAt P i).m⟩)) ?_))
    ·have hc' : lex8 (tAt P i).m (tAt Q k).m = 1 := by rw [← lx_lex]; exact hc
     repeat (first | apply AWp.seq | apply AWp.region | (refine AWs.q rfl rfl ?_; first | (apply Gt.move; refine ⟨_, Qs.move (ao rfl), ?_⟩) | (apply Gt.len; refine ⟨_, Qs.lenN rfl (tab_of rfl), ?_⟩) | (apply Gt.bin; refine ⟨_, Qs.cmpT rfl (ao rfl) (ao rfl) (by first | (simp only [cmpP, List.length_cons, List.length_nil]; omega) | (simp [cmpP]; done) | (simp [cmpP]; omega)), ?_⟩) | (apply Gt.pick; refine ⟨_, Qs.pickT (ao rfl) (ao rfl), ?_⟩)) | refine AWs.sG rfl rfl rfl rfl rfl ?_ | apply AWl.nil | apply AThen.normal | apply AWp.block | apply AWp.skip | (apply Gc.cond; refine AWp.condT (ao rfl) ?_))
     refine AWp.dr' (DrawOk.self (by kernel_rfl)) [[], [], [(21, 1)], [(20, 0), (22, 2)], [(23, 3)], [], [], [(26, 6)], [(25, 5), (27, 7)], [(28, 8)], [], [], [(30, 10), (31, 11)], [(32, 12)], [(33, 13)], [], [], [(35, 15), (36, 16)], [(37, 17)], [(38, 18)], [(34, 14), (39, 19)], [(40, 20)], [(29, 9), (41, 21)], [(24, 4), (42, 22)]] [[], [], [1], [0, 1, 2], [0, 1, 2, 3], [0, 1, 2, 3, 4], [0, 1, 2, 3, 4], [0, 1, 2, 3, 4, 6], [0, 1, 2, 3, 4, 5, 6, 7], [0, 1, 2, 3, 4, 5, 6, 7, 8], [0, 1, 2, 3, 4, 5, 6, 7, 8, 9], [0, 1, 2, 3, 4, 5, 6, 7, 8, 9], [0, 1, 2, 3, 4, 5, 6, 7, 8, 9, 10, 11], [0, 1, 2, 3, 4, 5, 6, 7, 8, 9, 10, 11, 12], [0, 1, 2, 3, 4, 5, 6, 7, 8, 9, 10, 11, 12, 13], [0, 1, 2, 3, 4, 5, 6, 7, 8, 9], [0, 1, 2, 3, 4, 5, 6, 7, 8, 9], [0, 1, 2, 3, 4, 5, 6, 7, 8, 9, 15, 16], [0, 1, 2, 3, 4, 5, 6, 7, 8, 9, 15, 16, 17], [0, 1, 2, 3, 4, 5, 6, 7, 8, 9, 15, 16, 17, 18], [0, 1, 2, 3, 4, 5, 6, 7, 8, 9, 10, 11, 12, 13, 14, 15, 16, 17, 18, 19], [0, 1, 2, 3, 4, 5, 6, 7, 8, 9, 10, 11, 12, 13, 14, 15, 16, 17, 18, 19, 20], [0, 1, 2, 3, 4, 5, 6, 7, 8, 9, 10, 11, 12, 13, 14, 15, 16, 17, 18, 19, 20, 21], [0, 1, 2, 3, 4, 5, 6, 7, 8, 9, 10, 11, 12, 13, 14, 15, 16, 17, 18, 19, 20, 21, 22]] rfl (by kernel_rfl) (by kernel_rfl) (by kernel_rfl) ?_
     repeat (first | refine ⟨_, rfl, ?_⟩ | (apply Gh.move; (refine ⟨_, HStep.q rfl (Qs.move (ah rfl)), ?_⟩; refine ⟨_, rfl, ?_⟩)) | (apply Gh.len; (refine ⟨_, HStep.q rfl (Qs.lenN rfl (tab_of rfl)), ?_⟩; refine ⟨_, rfl, ?_⟩)) | (apply Gh.bin; (refine ⟨_, HStep.q rfl (Qs.cmpF rfl (ah rfl) (ah rfl) (by first | (simp only [cmpP, List.length_cons, List.length_nil]; omega) | (simp [cmpP]; done) | (simp [cmpP]; omega))), ?_⟩; refine ⟨_, rfl, ?_⟩)) | (apply Gh.pick; (refine ⟨_, HStep.q rfl (Qs.pickF (ah rfl) (ah rfl)), ?_⟩; refine ⟨_, rfl, ?_⟩)) | (apply Gh.move; (refine ⟨_, HStep.gT rfl rfl (Qs.move (ah rfl)), ?_⟩; refine ⟨_, rfl, ?_⟩)) | (apply Gh.load; (refine ⟨_, HStep.gT rfl rfl (Qs.loadEf (ah rfl) (tab_of rfl) rfl rfl), ?_⟩; refine ⟨_, rfl, ?_⟩)) | (apply Gh.fieldAddr; (refine ⟨_, HStep.gT rfl rfl (Qs.fldE (ah rfl) (tab_of rfl) rfl (tab_of rfl) rfl rfl), ?_⟩; refine ⟨_, rfl, ?_⟩)) | (apply Gh.indexAddr; (refine ⟨_, HStep.gT rfl rfl (Qs.indexN rfl (ah rfl) (tab_of rfl) (tab_of rfl) rfl (by first | omega | (simp; omega))), ?_⟩; refine ⟨_, rfl, ?_⟩)) | (apply Gh.len; (refine ⟨_, HStep.gT rfl rfl (Qs.lenN rfl (tab_of rfl)), ?_⟩; refine ⟨_, rfl, ?_⟩)) | (apply Gh.bin; (refine ⟨_, HStep.gT rfl rfl (Qs.cmpT rfl (ah rfl) (ah rfl) (by first | (simp only [cmpP, List.length_cons, List.length_nil]; omega) | (simp [cmpP]; done) | (simp [cmpP]; omega))), ?_⟩; refine ⟨_, rfl, ?_⟩)) | (apply Gh.pick; (refine ⟨_, HStep.gT rfl rfl (Qs.pickT (ah rfl) (ah rfl)), ?_⟩; refine ⟨_, rfl, ?_⟩)) | (apply Gh.callv; (refine ⟨_, HStep.gT rfl rfl (Qs.call (ah rfl) (RmCmp_abs (tAt P i).m (tAt Q k).m) (by first | ((repeat (first | exact ArgsLe.nil | refine ArgsLe.cons rfl (D.le.refl _) ?_ | refine ArgsLe.cons rfl D.le_nil ?_)); done) | fail)), ?_⟩; refine ⟨_, rfl, ?_⟩)))
     repeat (first | apply AWp.seq | apply AWp.region | (apply Ga.app; refine AWs.app (ao rfl) rfl rfl (tab_of rfl) (tab_of rfl) rfl rfl (by simp; omega) (by simp; omega) rfl (by first | ((repeat (first | exact PlainHp.nil | refine PlainHp.var ?_ | refine PlainHp.row ?_ | refine PlainHp.dead ?_)); done) | fail) rfl ?_) | (refine AWs.q rfl rfl ?_; first | (apply Gt.move; refine ⟨_, Qs.move (ao rfl), ?_⟩) | (apply Gt.assign; refine ⟨_, Qs.assign (ao rfl), ?_⟩) | (apply Gt.load; refine ⟨_, Qs.loadEf (ao rfl) (tab_of rfl) rfl rfl, ?_⟩) | (apply Gt.indexAddr; refine ⟨_, Qs.indexN rfl (ao rfl) (tab_of rfl) (tab_of rfl) rfl (by first | omega | (simp; omega)), ?_⟩) | (apply Gt.add; refine ⟨_, Qs.succ (ao rfl) (ao rfl) (by omega), ?_⟩) | (apply Gt.bslice; refine ⟨_, Bq.slice1 (ao rfl) (tab_of rfl) (tab_of rfl) rfl rfl rfl rfl rfl, ?_⟩)) | apply AWl.nil | apply AThen.normal | apply AWp.exit | apply AThen.exit | apply ABlock.hit | (apply Gc.cond; refine AWp.condT (ao rfl) ?_))
     refine ALoop.next ((P.length - (i + 1)) + (Q.length - k)) (by omega) ⟨i + 1, k, R ++ [tAt P i], by omega, by omega, ?_, by simp; omega, rfl, rfl⟩ ?_
     ·rw [mrg_gt hc] at heq
      rw [← heq, hdQ]; simp
     ·exact AS.le_of (by repeat (first | exact FrLe.nil | refine FrLe.cons rfl (AVle.d rfl) ?_ | refine FrLe.cons rfl (AVle.own rfl) ?_)) (by repeat (first | exact HpLe.nil | refine HpLe.cons (OwLe.row (map_snoc tmC R (tAt P i))) ?_))
   ·repeat (first | apply AWp.seq | apply AWp.region | (refine AWs.q rfl rfl ?_; first | (apply Gt.move; refine ⟨_, Qs.move (ao rfl), ?_⟩) | (apply Gt.len; refine ⟨_, Qs.lenN rfl (tab_of rfl), ?_⟩) | (apply Gt.bin; refine ⟨_, Qs.cmpT rfl (ao rfl) (ao rfl) (by first | (simp only [cmpP, List.length_cons, List.length_nil]; omega) | (simp [cmpP]; done) | (simp [cmpP]; omega)), ?_⟩) | (apply Gt.pick; refine ⟨_, Qs.pickT (ao rfl) (ao rfl), ?_⟩)) | refine AWs.sG rfl rfl rfl rfl rfl ?_ | apply AWl.nil | apply AThen.normal | apply AWp.block | apply AWp.skip | (apply Gc.cond; refine AWp.condT (ao rfl) ?_))
    refine AWp.dr' (DrawOk.self (by kernel_rfl)) [[], [], [(21, 1)], [(20, 0), (22, 2)], [(23, 3)], [], [], [(26, 6)], [(25, 5), (27, 7)], [(28, 8)], [], [], [(30, 10), (31, 11)], [(32, 12)], [(33, 13)], [], [], [(35, 15), (36, 16)], [(37, 17)], [(38, 18)], [(34, 14), (39, 19)], [(40, 20)], [(29, 9), (41, 21)], [(24, 4), (42, 22)]] [[], [], [1], [0, 1, 2], [0, 1, 2, 3], [0, 1, 2, 3, 4], [0, 1, 2, 3, 4], [0, 1, 2, 3, 4, 6], [0, 1, 2, 3, 4, 5, 6, 7], [0, 1, 2, 3, 4, 5, 6, 7, 8], [0, 1, 2, 3, 4, 5, 6, 7, 8, 9], [0, 1, 2, 3, 4, 5, 6, 7, 8, 9], [0, 1, 2, 3, 4, 5, 6, 7, 8, 9, 10, 11], [0, 1, 2, 3, 4, 5, 6, 7, 8, 9, 10, 11, 12], [0, 1, 2, 3, 4, 5, 6, 7, 8, 9, 10, 11, 12, 13], [0, 1, 2, 3, 4, 5, 6, 7, 8, 9], [0, 1, 2, 3, 4, 5, 6, 7, 8, 9], [0, 1, 2, 3, 4, 5, 6, 7, 8, 9, 15, 16], [0, 1, 2, 3, 4, 5, 6, 7, 8, 9, 15, 16, 17], [0, 1, 2, 3, 4, 5, 6, 7, 8, 9, 15, 16, 17, 18], [0, 1, 2, 3, 4, 5, 6, 7, 8, 9, 10, 11, 12, 13, 14, 15, 16, 17, 18, 19], [0, 1, 2, 3, 4, 5, 6, 7, 8, 9, 10, 11, 12, 13, 14, 15, 16, 17, 18, 19, 20], [0, 1, 2, 3, 4, 5, 6, 7, 8, 9, 10, 11, 12, 13, 14, 15, 16, 17, 18, 19, 20, 21], [0, 1, 2, 3, 4, 5, 6, 7, 8, 9, 10, 11, 12, 13, 14, 15, 16, 17, 18, 19, 20, 21, 22]] rfl (by kernel_rfl) (by kernel_rfl) (by kernel_rfl) ?_
    repeat (first | refine ⟨_, rfl, ?_⟩ | (apply Gh.move; (refine ⟨_, HStep.q rfl (Qs.move (ah rfl)), ?_⟩; refine ⟨_, rfl, ?_⟩)) | (apply Gh.len; (refine ⟨_, HStep.q rfl (Qs.lenN rfl (tab_of rfl)), ?_⟩; refine ⟨_, rfl, ?_⟩)) | (apply Gh.bin; (refine ⟨_, HStep.q rfl (Qs.cmpT rfl (ah rfl) (ah rfl) (by first | (simp only [cmpP, List.length_cons, List.length_nil]; omega) | (simp [cmpP]; done) | (simp [cmpP]; omega))), ?_⟩; refine ⟨_, rfl, ?_⟩)) | (apply Gh.pick; (refine ⟨_, HStep.q rfl (Qs.pickT (ah rfl) (ah rfl)), ?_⟩; refine ⟨_, rfl, ?_⟩)) | (refine ⟨_, HStep.gF rfl rfl rfl, ?_⟩; refine ⟨_, rfl, ?_⟩))
    repeat (first | apply AWp.seq | apply AWp.region | (apply Ga.app; refine AWs.app (ao rfl) rfl rfl (tab_of rfl) (tab_of rfl) rfl rfl (by simp; omega) (by simp; omega) rfl (by first | ((repeat (first | exact PlainHp.nil | refine PlainHp.var ?_ | refine PlainHp.row ?_ | refine PlainHp.dead ?_)); done) | fail) rfl ?_) | (refine AWs.q rfl rfl ?_; first | (apply Gt.move; refine ⟨_, Qs.move (ao rfl), ?_⟩) | (apply Gt.assign; refine ⟨_, Qs.assign (ao rfl), ?_⟩) | (apply Gt.load; refine ⟨_, Qs.loadEf (ao rfl) (tab_of rfl) rfl rfl, ?_⟩) | (apply Gt.indexAddr; refine ⟨_, Qs.indexN rfl (ao rfl) (tab_of rfl) (tab_of rfl) rfl (by first | omega | (simp; omega)), ?_⟩) | (apply Gt.add; refine ⟨_, Qs.succ (ao rfl) (ao rfl) (by omega), ?_⟩) | (apply Gt.bslice; refine ⟨_, Bq.slice1 (ao rfl) (tab_of rfl) (tab_of rfl) rfl rfl rfl rfl rfl, ?_⟩)) | apply AWl.nil | apply AThen.normal | apply AWp.exit | apply AThen.exit | apply ABlock.hit | (apply Gc.cond; refine AWp.condT (ao rfl) ?_))
    refine ALoop.next ((P.length - (i + 1)) + (Q.length - k)) (by omega) ⟨i + 1, k, R ++ [tAt P i], by omega, by omega, ?_, by simp; omega, rfl, rfl⟩ ?_
    ·have hq : Q.drop k = [] := List.drop_eq_nil_of_le (by omega)
     rw [hdP, hq, mrg_nil] at heq
     rw [← heq, hq, mrg_nil]; simp
    ·exact AS.le_of (by repeat (first | exact FrLe.nil | refine FrLe.cons rfl (AVle.d rfl) ?_ | refine FrLe.cons rfl (AVle.own rfl) ?_)) (by repeat (first | exact HpLe.nil | refine HpLe.cons (OwLe.row (map_snoc tmC R (tAt P i))) ?_))
  ·have hp : P.drop i = [] := List.drop_eq_nil_of_le (by omega)
   by_cases hkq : k < Q.length
   ·have hdQ := drop_tAt hkq
    repeat (first | apply AWp.seq | apply AWp.region | (refine AWs.q rfl rfl ?_; first | (apply Gt.move; refine ⟨_, Qs.move (ao rfl), ?_⟩) | (apply Gt.len; refine ⟨_, Qs.lenN rfl (tab_of rfl), ?_⟩) | (apply Gt.bin; refine ⟨_, Qs.cmpF rfl (ao rfl) (ao rfl) (by first | (simp only [cmpP, List.length_cons, List.length_nil]; omega) | (simp [cmpP]; done) | (simp [cmpP]; omega)), ?_⟩) | (apply Gt.pick; refine ⟨_, Qs.pickF (ao rfl) (ao rfl), ?_⟩)) | (refine AWs.qG rfl rfl rfl rfl rfl ?_; first | (apply Gt.move; refine ⟨_, Qs.move (ao rfl), ?_⟩) | (apply Gt.len; refine ⟨_, Qs.lenN rfl (tab_of rfl), ?_⟩) | (apply Gt.bin; refine ⟨_, Qs.cmpT rfl (ao rfl) (ao rfl) (by first | (simp only [cmpP, List.length_cons, List.length_nil]; omega) | (simp [cmpP]; done) | (simp [cmpP]; omega)), ?_⟩)) | apply AWl.nil | apply AThen.normal | apply AWp.block | apply AWp.skip | (apply Gc.cond; refine AWp.condT (ao rfl) ?_))
    refine AWp.dr' (DrawOk.self (by kernel_rfl)) [[], [], [(21, 1)], [(20, 0), (22, 2)], [(23, 3)], [], [], [(26, 6)], [(25, 5), (27, 7)], [(28, 8)], [], [], [(30, 10), (31, 11)], [(32, 12)], [(33, 13)], [], [], [(35, 15), (36, 16)], [(37, 17)], [(38, 18)], [(34, 14), (39, 19)], [(40, 20)], [(29, 9), (41, 21)], [(24, 4), (42, 22)]] [[], [], [1], [0, 1, 2], [0, 1, 2, 3], [0, 1, 2, 3, 4], [0, 1, 2, 3, 4], [0, 1, 2, 3, 4, 6], [0, 1, 2, 3, 4, 5, 6, 7], [0, 1, 2, 3, 4, 5, 6, 7, 8], [0, 1, 2, 3, 4, 5, 6, 7, 8, 9], [0, 1, 2, 3, 4, 5, 6, 7, 8, 9], [0, 1, 2, 3, 4, 5, 6, 7, 8, 9, 10, 11], [0, 1, 2, 3, 4, 5, 6, 7, 8, 9, 10, 11, 12], [0, 1, 2, 3, 4, 5, 6, 7, 8, 9, 10, 11, 12, 13], [0, 1, 2, 3, 4, 5, 6, 7, 8, 9], [0, 1, 2, 3, 4, 5, 6, 7, 8, 9], [0, 1, 2, 3, 4, 5, 6, 7, 8, 9, 15, 16], [0, 1, 2, 3, 4, 5, 6, 7, 8, 9, 15, 16, 17], [0, 1, 2, 3, 4, 5, 6, 7, 8, 9, 15, 16, 17, 18], [0, 1, 2, 3, 4, 5, 6, 7, 8, 9, 10, 11, 12, 13, 14, 15, 16, 17, 18, 19], [0, 1, 2, 3, 4, 5, 6, 7, 8, 9, 10, 11, 12, 13, 14, 15, 16, 17, 18, 19, 20], [0, 1, 2, 3, 4, 5, 6, 7, 8, 9, 10, 11, 12, 13, 14, 15, 16, 17, 18, 19, 20, 21], [0, 1, 2, 3, 4, 5, 6, 7, 8, 9, 10, 11, 12, 13, 14, 15, 16, 17, 18, 19, 20, 21, 22]] rfl (by kernel_rfl) (by kernel_rfl) (by kernel_rfl) ?_
    repeat (first | refine ⟨_, rfl, ?_⟩ | (apply Gh.move; (refine ⟨_, HStep.q rfl (Qs.move (ah rfl)), ?_⟩; refine ⟨_, rfl, ?_⟩)) | (apply Gh.len; (refine ⟨_, HStep.q rfl (Qs.lenN rfl (tab_of rfl)), ?_⟩; refine ⟨_, rfl, ?_⟩)) | (apply Gh.bin; (refine ⟨_, HStep.q rfl (Qs.cmpF rfl (ah rfl) (ah rfl) (by first | (simp only [cmpP, List.length_cons, List.length_nil]; omega) | (simp [cmpP]; done) | (simp [cmpP]; omega))), ?_⟩; refine ⟨_, rfl, ?_⟩)) | (apply Gh.pick; (refine ⟨_, HStep.q rfl (Qs.pickF (ah rfl) (ah rfl)), ?_⟩; refine ⟨_, rfl, ?_⟩)) | (refine ⟨_, HStep.gF rfl rfl rfl, ?_⟩; refine ⟨_, rfl, ?_⟩) | (apply Gh.move; (refine ⟨_, HStep.gT rfl rfl (Qs.move (ah rfl)), ?_⟩; refine ⟨_, rfl, ?_⟩)) | (apply Gh.len; (refine ⟨_, HStep.gT rfl rfl (Qs.lenN rfl (tab_of rfl)), ?_⟩; refine ⟨_, rfl, ?_⟩)) | (apply Gh.bin; (refine ⟨_, HStep.gT rfl rfl (Qs.cmpF rfl (ah rfl) (ah rfl) (by first | (simp only [cmpP, List.length_cons, List.length_nil]; omega) | (simp [cmpP]; done) | (simp [cmpP]; omega))), ?_⟩; refine ⟨_, rfl, ?_⟩)) | (apply Gh.pick; (refine ⟨_, HStep.gT rfl rfl (Qs.pickF (ah rfl) (ah rfl)), ?_⟩; refine ⟨_, rfl, ?_⟩)))
    repeat (first | apply AWp.seq | apply AWl.nil | apply AThen.normal | apply AWp.skip | (apply Gc.cond; refine AWp.condF (ao rfl) ?_))
    refine AWp.dr' (DrawOk.self (by kernel_rfl)) [[], [], [(54, 1)], [(53, 0), (55, 2)], [(56, 3)], [], [], [(58, 5), (59, 6)], [(60, 7)], [(61, 8)], [], [], [(63, 10), (64, 11)], [(65, 12)], [(66, 13)], [(62, 9), (67, 14)], [(68, 15)], [(57, 4), (69, 16)]] [[], [], [1], [0, 1, 2], [0, 1, 2, 3], [0, 1, 2, 3, 4], [0, 1, 2, 3, 4], [0, 1, 2, 3, 4, 5, 6], [0, 1, 2, 3, 4, 5, 6, 7], [0, 1, 2, 3, 4, 5, 6, 7, 8], [0, 1, 2, 3, 4], [0, 1, 2, 3, 4], [0, 1, 2, 3, 4, 10, 11], [0, 1, 2, 3, 4, 10, 11, 12], [0, 1, 2, 3, 4, 10, 11, 12, 13], [0, 1, 2, 3, 4, 5, 6, 7, 8, 9, 10, 11, 12, 13, 14], [0, 1, 2, 3, 4, 5, 6, 7, 8, 9, 10, 11, 12, 13, 14, 15], [0, 1, 2, 3, 4, 5, 6, 7, 8, 9, 10, 11, 12, 13, 14, 15, 16]] rfl (by kernel_rfl) (by kernel_rfl) (by kernel_rfl) ?_
    repeat (first | refine ⟨_, rfl, ?_⟩ | (apply Gh.move; (refine ⟨_, HStep.q rfl (Qs.move (ah rfl)), ?_⟩; refine ⟨_, rfl, ?_⟩)) | (apply Gh.len; (refine ⟨_, HStep.q rfl (Qs.lenN rfl (tab_of rfl)), ?_⟩; refine ⟨_, rfl, ?_⟩)) | (apply Gh.bin; (refine ⟨_, HStep.q rfl (Qs.cmpT rfl (ah rfl) (ah rfl) (by first | (simp only [cmpP, List.length_cons, List.length_nil]; omega) | (simp [cmpP]; done) | (simp [cmpP]; omega))), ?_⟩; refine ⟨_, rfl, ?_⟩)) | (apply Gh.pick; (refine ⟨_, HStep.q rfl (Qs.pickT (ah rfl) (ah rfl)), ?_⟩; refine ⟨_, rfl, ?_⟩)) | (refine ⟨_, HStep.gF rfl rfl rfl, ?_⟩; refine ⟨_, rfl, ?_⟩))
    repeat (first | apply AWp.seq | apply AWp.region | (apply Ga.app; refine AWs.app (ao rfl) rfl rfl (tab_of rfl) (tab_of rfl) rfl rfl (by simp; omega) (by simp; omega) rfl (by first | ((repeat (first | exact PlainHp.nil | refine PlainHp.var ?_ | refine PlainHp.row ?_ | refine PlainHp.dead ?_)); done) | fail) rfl ?_) | (refine AWs.q rfl rfl ?_; first | (apply Gt.move; refine ⟨_, Qs.move (ao rfl), ?_⟩) | (apply Gt.assign; refine ⟨_, Qs.assign (ao rfl), ?_⟩) | (apply Gt.load; refine ⟨_, Qs.loadEf (ao rfl) (tab_of rfl) rfl rfl, ?_⟩) | (apply Gt.indexAddr; refine ⟨_, Qs.indexN rfl (ao rfl) (tab_of rfl) (tab_of rfl) rfl (by first | omega | (simp; omega)), ?_⟩) | (apply Gt.add; refine ⟨_, Qs.succ (ao rfl) (ao rfl) (by omega), ?_⟩) | (apply Gt.bslice; refine ⟨_, Bq.slice1 (ao rfl) (tab_of rfl) (tab_of rfl) rfl rfl rfl rfl rfl, ?_⟩)) | apply AWl.nil | apply AThen.normal | apply AWp.exit | apply AThen.exit | apply ABlock.hit | (apply Gc.cond; refine AWp.condT (ao rfl) ?_))
    refine ALoop.next ((P.length - i) + (Q.length - (k + 1))) (by omega) ⟨i, k + 1, R ++ [tAt Q k], by omega, by omega, ?_, by simp; omega, rfl, rfl⟩ ?_
    ·rw [hdQ, hp, nil_mrg] at heq
     rw [← heq, hp, nil_mrg]; simp
    ·exact AS.le_of (by repeat (first | exact FrLe.nil | refine FrLe.cons rfl (AVle.d rfl) ?_ | refine FrLe.cons rfl (AVle.own rfl) ?_)) (by repeat (first | exact HpLe.nil | refine HpLe.cons (OwLe.row (map_snoc tmC R (tAt Q k))) ?_))
   ·repeat (first | apply AWp.seq | apply AWp.region | (refine AWs.q rfl rfl ?_; first | (apply Gt.move; refine ⟨_, Qs.move (ao rfl), ?_⟩) | (apply Gt.assign; refine ⟨_, Qs.assign (ao rfl), ?_⟩) | (apply Gt.len; refine ⟨_, Qs.lenN rfl (tab_of rfl), ?_⟩) | (apply Gt.bin; refine ⟨_, Qs.cmpF rfl (ao rfl) (ao rfl) (by first | (simp only [cmpP, List.length_cons, List.length_nil]; omega) | (simp [cmpP]; done) | (simp [cmpP]; omega)), ?_⟩) | (apply Gt.pick; refine ⟨_, Qs.pickF (ao rfl) (ao rfl), ?_⟩)) | (refine AWs.qG rfl rfl rfl rfl rfl ?_; first | (apply Gt.move; refine ⟨_, Qs.move (ao rfl), ?_⟩) | (apply Gt.len; refine ⟨_, Qs.lenN rfl (tab_of rfl), ?_⟩) | (apply Gt.bin; refine ⟨_, Qs.cmpF rfl (ao rfl) (ao rfl) (by first | (simp only [cmpP, List.length_cons, List.length_nil]; omega) | (simp [cmpP]; done) | (simp [cmpP]; omega)), ?_⟩)) | apply AWl.nil | apply AThen.normal | apply AWp.exit | apply AWp.ret | apply AThen.exit | apply ABlock.hit | apply ALoop.exit | (apply Gc.cond; refine AWp.condF (ao rfl) ?_))
    have hq : Q.drop k = [] := List.drop_eq_nil_of_le (by omega)
    exact Fin.ret (Rets.of1 (ResV.tmp rfl rfl) (D.le.of_eq (by rw [← heq, hp, hq, nil_mrg, List.append_nil]; rfl)))
end Go.Proofs.YteicdddphdomkaaGreat
namespace Go.Proofs.YteicdddphdomkaaGreat
open Go.RowKit
inductive AddE (e : Nat) : List Oper → List Oper → Prop
 | nil : AddE e [] []
 | keep {o : Oper} {l l' : List Oper} (h : AddE e l l') : AddE e (o :: l) (o :: l')
 | add {dd : Option Tmp} {op : Op} {ty : TypeId} {ps : String} {af : Array Edge} {gd : Option (Nat × Bool)} {l l' : List Oper} (h : AddE e l l') : AddE e (⟨dd, op, ty, ps, af, gd⟩ :: l) (⟨dd, op, ty, ps, af.push ⟨e, .data⟩, gd⟩ :: l')
theorem AddE.length {e : Nat} {l l' : List Oper} (h : AddE e l l') : l.length = l'.length := by
 induction h <;> simp_all
theorem AddE.at {e : Nat} {l l' : List Oper} (h : AddE e l l') : ∀ (i : Nat) (o : Oper), l[i]? = some o → ∃ o', l'[i]? = some o' ∧ (o' = o ∨ o' = { o with after := o.after.push ⟨e, .data⟩ }) := by
 induction h with
 | nil => intro i o ho; simp at ho
 | keep h ih =>
  intro i o ho
  cases i with
  | zero => simp at ho; subst ho; exact ⟨_, by simp, .inl rfl⟩
  | succ i => simpa using ih i o (by simpa using ho)
 | add h ih =>
  intro i o ho
  cases i with
  | zero => simp at ho; subst ho; exact ⟨_, by simp, .inr rfl⟩
  | succ i => simpa using ih i o (by simpa using ho)
def floatB (e : Nat) (L L' : List Oper) : Bool :=
 match L[e]?, L'[e]? with
 | some oe, some oe' => (match oe.op with | .extract _ _ => true | _ => false) && oe.guard.isNone && (edges oe == edges oe') &&
  ((List.range L.length).all fun i => match L[i]?, L'[i]? with
   | some o, some o' => (edges o == edges o') || (edges oe).all fun j => (edges o).contains j
   | _, _ => false) &&
  ((List.range L.length).all fun j => j == e || match L[j]? with
   | some o => (edges o).contains e || (edges oe).contains j || oe.apart L.toArray o
   | none => false) &&
  L.all fun o => notSelect o.op
 | _, _ => false
theorem extract_run {P : Program} {o : Oper} {x : Operand} {n : Nat} {a : Act} (hop : o.op = .extract x n) : (∃ v, ∀ w, (execOp a.eval o).run P w = .ok (.value v) w) ∨ ∀ (K : Act → World → Prop) (Q : Exit → Act → World → Prop) w, ¬ o.wp P a w K Q := by
 cases hx : a.eval x with
 | tuple cs =>
  cases hc : cs[n]? with
  | some v => exact .inl ⟨v, fun w => by simp [execOp, hop, Instr.extract, hx, hc]⟩
  | none =>
   refine .inr fun K Q w hw => ?_
   simp [Oper.wp, execOp, hop, Instr.extract, hx, hc, stuck, Oper.upon] at hw
 | _ =>
  refine .inr fun K Q w hw => ?_
  simp [Oper.wp, execOp, hop, Instr.extract, hx, stuck, Oper.upon] at hw
theorem edges_of {L : List Oper} {j : Nat} {o : Oper} {listed : Array Bool} (hsz : listed.size = L.length) (ho : L[j]? = some o) : j ∈ Region.ready .any L.toArray listed ↔ listed.getD j false = false ∧ ∀ k ∈ edges o, listed.getD k false = true := by
 have hlt : j < listed.size := by rw [hsz]; exact (List.getElem?_eq_some_iff.1 ho).1
 rw [mem_ready]
 have e : listed.getD j true = listed.getD j false := by simp [hlt]
 rw [e]
 refine and_congr_right fun _ => ⟨fun ⟨o', h1, h2⟩ k hk => ?_, fun h => ⟨o, by simpa using ho, fun e he hb => h _ (mem_edges he hb)⟩⟩
 obtain rfl : o' = o := by rw [List.getElem?_toArray, ho] at h1; exact (Option.some.inj h1).symm
 obtain ⟨e, he, hb, rfl⟩ := edges_mem hk
 exact h2 e he hb
theorem edges_add {o : Oper} {e : Nat} {k : Nat} (h : k ∈ edges o) : k ∈ edges { o with after := o.after.push ⟨e, .data⟩ } := by
 obtain ⟨x, hx, hb, rfl⟩ := edges_mem h
 exact mem_edges (by simp [hx]) hb
theorem edges_sub {o : Oper} {e : Nat} {k : Nat} (h : k ∈ edges { o with after := o.after.push ⟨e, .data⟩ }) : k ∈ edges o ∨ k = e := by
 obtain ⟨x, hx, hb, rfl⟩ := edges_mem h
 rcases Array.mem_push.1 hx with hx | rfl
 ·exact .inl (mem_edges hx hb)
 ·exact .inr rfl
theorem wpAny_float {P : Program} {Q : Exit → Act → World → Prop} {e : Nat} {L L' : List Oper} (hL : AddE e L L') (hb : floatB e L L' = true) (hQ : ∀ c a w, ¬ Q (.panic c) a w) (hQ' : ¬ LetsOut Q) : ∀ (f : Nat) (listed : Array Bool) (a : Act) (w : World), listed.size = L.length →
  (∀ j o, L[j]? = some o → listed.getD j false = true → ∀ k ∈ edges o, listed.getD k false = true) →
  wpAny P .any L'.toArray Q f listed a w → wpAny P .any L.toArray Q f listed a w := by
 obtain ⟨oe, oe', he, he', hb1, hb2, hb3, hb4, hb5, hb6⟩ : ∃ oe oe', L[e]? = some oe ∧ L'[e]? = some oe' ∧ (∃ x n, oe.op = .extract x n) ∧ oe.guard = none ∧ edges oe = edges oe' ∧ (∀ i o o', L[i]? = some o → L'[i]? = some o' → edges o = edges o' ∨ ∀ j ∈ edges oe, j ∈ edges o) ∧ (∀ j o, L[j]? = some o → j = e ∨ e ∈ edges o ∨ j ∈ edges oe ∨ oe.apart L.toArray o = true) ∧ ∀ o ∈ L, notSelect o.op = true := by
  unfold floatB at hb
  split at hb
  ·rename_i oe oe' he he'
   simp only [Bool.and_eq_true] at hb
   obtain ⟨⟨⟨⟨⟨h1, h2⟩, h3⟩, h4⟩, h5⟩, h6⟩ := hb
   refine ⟨oe, oe', he, he', ?_, by simpa using h2, by simpa using h3, fun i o o' ho ho' => ?_, fun j o ho => ?_, fun o ho => List.all_eq_true.1 h6 o ho⟩
   ·split at h1
    ·exact ⟨_, _, by assumption⟩
    ·cases h1
   ·have := List.all_eq_true.1 h4 i (List.mem_range.2 (List.getElem?_eq_some_iff.1 ho).1)
    rw [ho, ho'] at this
    simpa using this
   ·have := List.all_eq_true.1 h5 j (List.mem_range.2 (List.getElem?_eq_some_iff.1 ho).1)
    rw [ho] at this
    simp only [Bool.or_eq_true, beq_iff_eq] at this
    simp only [List.contains_iff_mem] at this
    rcases this with h | (h | h) | h
    ·exact .inl h
    ·exact .inr (.inl h)
    ·exact .inr (.inr (.inl h))
    ·exact .inr (.inr (.inr h))
  ·cases hb
 obtain ⟨x, n, hop⟩ := hb1
 have hlen := hL.length
 have hel : e < L.length := (List.getElem?_eq_some_iff.1 he).1
 have hsel : ∀ (j : Nat) (o : Oper) cs b, L.toArray[j]? = some o → o.op ≠ .select cs b := fun j o cs b ho h => by
  have := hb6 o (List.mem_of_getElem? (i := j) (by simpa using ho))
  rw [h] at this
  cases this
 intro f
 induction f with
 | zero =>
  intro listed a w hsz hcl h
  refine ⟨?_, h.2⟩
  have h1 := h.1
  refine List.eq_nil_iff_forall_not_mem.2 fun i hi => ?_
  obtain ⟨_, o, ho, _⟩ := mem_ready.1 hi
  have ho : L[i]? = some o := by simpa using ho
  obtain ⟨o', ho', hoo⟩ := hL.at i o ho
  have hi2 := (edges_of hsz ho).1 hi
  by_cases hr : i ∈ Region.ready .any L'.toArray listed
  ·rw [h1] at hr; cases hr
  ·have hr' : e ∈ Region.ready .any L'.toArray listed := by
    rw [edges_of (by rw [hsz, hlen]) ho'] at hr
    rw [edges_of (by rw [hsz, hlen]) he', ← hb3]
    rcases hb4 i o o' ho ho' with h | h
    ·exact absurd ⟨hi2.1, by rw [← h]; exact hi2.2⟩ hr
    ·refine ⟨?_, fun k hk => hi2.2 k (h k hk)⟩
     cases hg : listed.getD e false with
     | false => rfl
     | true =>
      refine absurd ⟨hi2.1, fun k hk => ?_⟩ hr
      rcases hoo with rfl | rfl
      ·exact hi2.2 k hk
      ·rcases edges_sub hk with hk | rfl
       ·exact hi2.2 k hk
       ·exact hg
   rw [h1] at hr'; cases hr'
 | succ f ih =>
  intro listed a w hsz hcl h
  by_cases hre : e ∈ Region.ready .any L.toArray listed
  ·have hre2 := (edges_of hsz he).1 hre
   have hre' : e ∈ Region.ready .any L'.toArray listed := (edges_of (by rw [hsz, hlen]) he').2 ⟨hre2.1, by rw [← hb3]; exact hre2.2⟩
   have h1 := h.2 e hre'
   obtain ⟨oe2, he2, hoo⟩ := hL.at e oe he
   obtain rfl : oe2 = oe' := Option.some.inj (he2.symm.trans he')
   have hex : execOp a.eval oe2 = execOp a.eval oe := by rcases hoo with rfl | rfl <;> rfl
   have hgd : oe2.guard = none := by rcases hoo with rfl | rfl <;> exact hb2
   have hds : oe2.dst = oe.dst := by rcases hoo with rfl | rfl <;> rfl
   unfold wpOp at h1
   rw [show L'.toArray[e]? = some oe2 by simpa using he'] at h1
   simp only [Region.wanted, hgd, if_true] at h1
   have h1 : oe2.wp P a w (wpAny P .any L'.toArray Q f (listed.setIfInBounds e true)) Q := h1.elim id fun h => absurd h.2 hQ'
   rcases extract_run (P := P) (a := a) hop with ⟨v, hv⟩ | hno
   ·have h2 : wpAny P .any L'.toArray Q f (listed.setIfInBounds e true) (a.put oe.dst v) w := by
     unfold Oper.wp at h1
     rw [hex, hv w, Oper.upon_value, hds] at h1
     exact h1
    refine wpAny_first (v := v) (show L.toArray[e]? = some oe by simpa using he) hsel (fun c a w h => absurd h (hQ c _ w)) f listed a w (fun j oj hj hne hun hno => ?_) hre (.inl ⟨by simp [Region.wanted, hb2], hv⟩) (ih _ _ _ (by simpa using hsz) (fun j o ho hl k hk => ?_) h2)
    ·have hj : L[j]? = some oj := by simpa using hj
     rcases hb5 j oj hj with h | h | h | h
     ·exact absurd h hne
     ·obtain ⟨x, hx, hbx, hxe⟩ := edges_mem h
      exact absurd hxe (hno x hx hbx)
     ·have := hre2.2 j h
      have hlt : j < listed.size := by rw [hsz]; exact (List.getElem?_eq_some_iff.1 hj).1
      simp [hlt] at this hun
      rw [this] at hun; cases hun
     ·exact h
    ·by_cases hje : j = e
     ·subst hje
      obtain rfl : o = oe := Option.some.inj (ho.symm.trans he)
      exact getD_set_true (hre2.2 k hk)
     ·rw [getD_set_ne false (fun h => hje h.symm)] at hl
      exact getD_set_true (hcl j o ho hl k hk)
   ·exfalso
    refine hno (wpAny P .any L'.toArray Q f (listed.setIfInBounds e true)) Q w ?_
    unfold Oper.wp at h1 ⊢
    rw [hex] at h1
    have : ∀ (r : Result Next), oe2.upon P a (wpAny P .any L'.toArray Q f (listed.setIfInBounds e true)) Q r = oe.upon P a (wpAny P .any L'.toArray Q f (listed.setIfInBounds e true)) Q r := fun r => by
     rcases hoo with rfl | rfl <;> rfl
    rwa [this] at h1
  ·have same : ∀ i, i ∈ Region.ready .any L.toArray listed ↔ i ∈ Region.ready .any L'.toArray listed := fun i => by
    by_cases hil : i < L.length
    ·have ho : L[i]? = some L[i] := List.getElem?_eq_getElem hil
     obtain ⟨o', ho', hoo⟩ := hL.at i _ ho
     rw [edges_of hsz ho, edges_of (by rw [hsz, hlen]) ho']
     refine and_congr_right fun hun => ⟨fun h k hk => ?_, fun h k hk => ?_⟩
     ·rcases hb4 i _ o' ho ho' with h' | h'
      ·exact h k (by rw [h']; exact hk)
      ·rcases hoo with rfl | rfl
       ·exact h k hk
       ·rcases edges_sub hk with hk | rfl
        ·exact h k hk
        ·cases hg : listed.getD k false with
         | true => rfl
         | false => exact absurd ((edges_of hsz he).2 ⟨hg, fun j hj => h j (h' j hj)⟩) hre
     ·rcases hoo with rfl | rfl
      ·exact h k hk
      ·exact h k (edges_add hk)
    ·constructor
     ·intro h
      obtain ⟨_, o, ho, _⟩ := mem_ready.1 h
      have := (Array.getElem?_eq_some_iff.1 ho).1
      simp at this
      exact absurd this hil
     ·intro h
      obtain ⟨_, o, ho, _⟩ := mem_ready.1 h
      have := (Array.getElem?_eq_some_iff.1 ho).1
      simp at this
      exact absurd (by omega) hil
   refine ⟨fun hn => h.1 (List.eq_nil_iff_forall_not_mem.2 fun i hi => ?_), fun i hi => ?_⟩
   ·have := (same i).2 hi
    rw [hn] at this; cases this
   ·have h1 := h.2 i ((same i).1 hi)
    obtain ⟨_, o, ho, _⟩ := mem_ready.1 hi
    have ho : L[i]? = some o := by simpa using ho
    obtain ⟨o', ho', hoo⟩ := hL.at i o ho
    have hi2 := (edges_of hsz ho).1 hi
    have hyl : ∀ t, yielded L'.toArray t = yielded L.toArray t := fun t => by
     funext j
     unfold yielded
     simp only [List.getElem?_toArray]
     cases hj : L[j]? with
     | none =>
      have : L'[j]? = none := by rw [List.getElem?_eq_none_iff] at hj ⊢; omega
      rw [this]
     | some oj =>
      obtain ⟨oj', hj', hjj⟩ := hL.at j oj hj
      rw [hj']
      rcases hjj with rfl | rfl <;> rfl
    have hcl2 : ∀ j o, L[j]? = some o → (listed.setIfInBounds i true).getD j false = true → ∀ k ∈ edges o, (listed.setIfInBounds i true).getD k false = true := fun j oj hoj hl k hk => by
     by_cases hji : j = i
     ·subst hji
      obtain rfl : oj = o := Option.some.inj (hoj.symm.trans ho)
      exact getD_set_true (hi2.2 k hk)
     ·rw [getD_set_ne false (fun h => hji h.symm)] at hl
      exact getD_set_true (hcl j oj hoj hl k hk)
    refine wpOp_mono (fun a w h => ih _ a w (by simpa using hsz) hcl2 h) ?_
    unfold wpOp at h1 ⊢
    rw [show L'.toArray[i]? = some o' by simpa using ho'] at h1
    rw [show L.toArray[i]? = some o by simpa using ho]
    rw [hyl] at h1
    rcases hoo with rfl | rfl
    ·exact h1
    ·exact h1
structure OnlyN (Q : Exit → AS → Prop) (e : Exit) (σ : AS) : Prop where
 how : e = .normal
 run : Q .normal σ
theorem OnlyN.mk' {Q : Exit → AS → Prop} {σ : AS} (h : Q .normal σ) : OnlyN Q .normal σ := ⟨rfl, h⟩
theorem DrawOk.float {P : Program} {s0 : GS} {n : Nat} {id : Nat} {e : Nat} {L L' : List Oper} {Q : Exit → AS → Prop} (hm : P.follows .mixedOrders = true) (hL : AddE e L L') (hb : floatB e L L' = true) : DrawOk P s0 n id L.toArray L' Q (OnlyN Q) := ⟨fun a w h => by
 have hfz : ∀ j, (Array.replicate L.toArray.size false).getD j false = false := fun j => by
  rcases Nat.lt_or_ge j L.length with h | h
  ·simp [h]
  ·simp [h]
 have hs : L'.toArray.size = L.toArray.size := by simp [hL.length]
 rw [hs] at h
 have hp : ∀ c a w, ¬ lift s0 n (OnlyN Q) (.panic c) a w := fun c a w ⟨σ, h, _⟩ => by have := h.how; cases this
 have hl : ¬ LetsOut (lift s0 n (OnlyN Q)) := fun ⟨a, w, σ, h, _⟩ => by have := h.how; cases this
 have h1 := wpAny_float hL hb hp hl _ _ _ _ (by simp) (fun j o _ hl => by rw [hfz] at hl; cases hl) h
 exact wp_mono (wp_region_any hm h1) fun ex a' w' ⟨σ, h, hs⟩ => by
  obtain ⟨rfl, h⟩ := h
  exact ⟨σ, h, hs⟩⟩
end Go.Proofs.YteicdddphdomkaaGreat
namespace Go.Proofs.YteicdddphdomkaaGreat
open Go.RowKit
set_option maxRecDepth 100000
theorem RTimes0_abs (c : Rat) (m : Nat → Int) (P : List Tm) (hc : c = 0) : Abs Tryz.prog 52 [agD (ratC c), agD (monC m), polD P] (tupD [polD [], ex (.int .i64 0)]) := by
 have hs := num_sign0.2 hc
 refine Abs.intro Tryz.func52 rfl (callFunc_run Tryz.func52 (by kernel_rfl) (by kernel_rfl)) rfl fun s0 => ?_
 rw [Tryz.ntmps52]
 repeat (first | apply AWp.seq | apply AWp.region | (apply Ga.box; refine AWs.bx (ao rfl) rfl rfl rfl rfl ?_) | (apply Ga.b0; refine AWs.b0 (tab_of rfl) (tab_of rfl) rfl rfl rfl rfl rfl ?_) | (refine AWs.q rfl rfl ?_; first | (apply Gt.assign; refine ⟨_, Qs.assign (ao rfl), ?_⟩) | (apply Gt.load; refine ⟨_, Qs.ldD (ao rfl) rfl (tab_of rfl) rfl rfl, ?_⟩) | (apply Gt.bin; refine ⟨_, Qs.cmpT rfl (ao rfl) (ao rfl) (by first | (simp only [cmpP, List.length_cons, List.length_nil]; omega) | (simp [cmpP]; done) | (simp [cmpP]; omega)), ?_⟩) | (apply Gt.callv; refine ⟨_, Qs.call (ao rfl) (RSign_abs c) (by first | ((repeat (first | exact ArgsLe.nil | refine ArgsLe.cons rfl (D.le.refl _) ?_ | refine ArgsLe.cons rfl D.le_nil ?_)); done) | fail), ?_⟩)) | apply AWl.nil | apply AThen.normal | apply AWp.ret | apply AThen.ret | (apply Gc.cond; refine AWp.condT (ao rfl) ?_))
 exact Fin.ret (Rets.of2 (ResV.tmp rfl rfl) (ResV.tmp rfl rfl) (D.le.tup2 (D.le_nilP) (D.le.refl _)))
theorem RTimes_abs (c : Rat) (m : Nat → Int) (P : List Tm) (N M : Nat) (hc : c ≠ 0) (hcs : RSz c N) (hm : In8 m 0 65535) (hP : PSz P M) (hPi : PIn P 0 65535) (hmP : ∀ t ∈ P, In8 (add8 m t.m) 0 65535) (hn : P.length ≤ 100000) (hNM : N + M ≤ 4398046511103) : Abs Tryz.prog 52 [agD (ratC c), agD (monC m), polD P] (tupD [polD (tms c m P), ex (.int .i64 0)]) := by
 have hs : c.num.sign ≠ 0 := fun e => hc (num_sign0.1 e)
 refine Abs.intro Tryz.func52 rfl (callFunc_run Tryz.func52 (by kernel_rfl) (by kernel_rfl)) rfl fun s0 => ?_
 rw [Tryz.ntmps52]
 repeat (first | apply AWp.seq | apply AWp.region | (apply Ga.box; refine AWs.bx (ao rfl) rfl rfl rfl rfl ?_) | (apply Ga.b0; refine AWs.b0 (tab_of rfl) (tab_of rfl) rfl rfl rfl rfl rfl ?_) | (refine AWs.q rfl rfl ?_; first | (apply Gt.assign; refine ⟨_, Qs.assign (ao rfl), ?_⟩) | (apply Gt.load; refine ⟨_, Qs.ldD (ao rfl) rfl (tab_of rfl) rfl rfl, ?_⟩) | (apply Gt.bin; refine ⟨_, Qs.cmpF rfl (ao rfl) (ao rfl) (by first | (simp only [cmpP, List.length_cons, List.length_nil]; omega) | (simp [cmpP]; done) | (simp [cmpP]; omega)), ?_⟩) | (apply Gt.callv; refine ⟨_, Qs.call (ao rfl) (RSign_abs c) (by first | ((repeat (first | exact ArgsLe.nil | refine ArgsLe.cons rfl (D.le.refl _) ?_ | refine ArgsLe.cons rfl D.le_nil ?_)); done) | fail), ?_⟩)) | apply AWl.nil | apply AThen.normal | apply AWp.block | apply AWp.skip | (apply Gc.cond; refine AWp.condF (ao rfl) ?_))
 refine AWp.loop (fun mz σ => ∃ k, k ≤ P.length ∧ mz = P.length - k ∧ σ = ⟨[(2, .d (polD P)), (3, .ptr 0 0), (4, .ptr 1 0), (8, .own 2), (9, .d (ex (.int .i64 (k : Nat))))], [.var 29 ((ratC c).map .d), .var 31 ((monC m).map .d), .row 33 12 ((tms c m (P.take k)).map tmC)]⟩) ?le ⟨0, by omega, rfl, rfl⟩ ?round
 case le => exact AS.le_of (by repeat (first | exact FrLe.nil | refine FrLe.cons rfl (AVle.d rfl) ?_ | refine FrLe.cons rfl (AVle.own rfl) ?_ | refine FrLe.cons rfl (AVle.ptr rfl) ?_)) (by repeat (first | exact HpLe.nil | refine HpLe.cons (OwLe.row rfl) ?_ | refine HpLe.cons (OwLe.varD rfl) ?_))
 case round =>
  rintro mz _ ⟨k, hk, rfl, rfl⟩
  by_cases hlt : k < P.length
  ·have ht := tAt_mem hlt
   have htk := take_tAt hlt
   repeat (first | apply AWp.seq | apply AWp.region | (refine AWs.q rfl rfl ?_; first | (apply Gt.move; refine ⟨_, Qs.move (ao rfl), ?_⟩) | (apply Gt.len; refine ⟨_, Qs.lenN rfl (tab_of rfl), ?_⟩) | (apply Gt.bin; refine ⟨_, Qs.cmpT rfl (ao rfl) (ao rfl) (by first | (simp only [cmpP, List.length_cons, List.length_nil]; omega) | (simp [cmpP]; done) | (simp [cmpP]; omega)), ?_⟩)) | apply AWl.nil | apply AThen.normal | apply AWp.block | apply AWp.skip | (apply Gc.cond; refine AWp.condT (ao rfl) ?_))
   refine AWp.dr' (DrawOk.float (e := 9) (by kernel_rfl) (AddE.keep (AddE.keep (AddE.keep (AddE.keep (AddE.keep (AddE.keep (AddE.keep (AddE.keep (AddE.keep (AddE.keep (AddE.keep (AddE.add (AddE.keep AddE.nil))))))))))))) (by kernel_rfl)) [[], [], [], [(24, 1), (25, 2)], [(26, 3)], [(27, 4)], [(23, 0), (28, 5)], [(29, 6)], [(22, 7)], [(22, 7)], []] [[], [], [], [1, 2], [1, 2, 3], [1, 2, 3, 4], [0, 1, 2, 3, 4, 5], [0, 1, 2, 3, 4, 5, 6], [0, 1, 2, 3, 4, 5, 6, 7], [0, 1, 2, 3, 4, 5, 6, 7], []] rfl (by kernel_rfl) (by kernel_rfl) (by kernel_rfl) ?_
   repeat (first | refine ⟨_, rfl, ?_⟩ | (apply Gh.alloc; refine ⟨_, HStep.n rfl (tab_of rfl) rfl (by decide) rfl, ?_⟩; refine ⟨_, rfl, ?_⟩) | (apply Gh.move; (refine ⟨_, HStep.q rfl (Qs.move (ah rfl)), ?_⟩; refine ⟨_, rfl, ?_⟩)) | (apply Gh.load; first | (refine ⟨_, HStep.q rfl (Qs.ldD (ah rfl) rfl (tab_of rfl) rfl rfl), ?_⟩; refine ⟨_, rfl, ?_⟩) | (refine ⟨_, HStep.q rfl (Qs.loadEf (ah rfl) (tab_of rfl) rfl rfl), ?_⟩; refine ⟨_, rfl, ?_⟩)) | (apply Gh.fieldAddr; (refine ⟨_, HStep.q rfl (Qs.fldE (ah rfl) (tab_of rfl) rfl (tab_of rfl) rfl rfl), ?_⟩; refine ⟨_, rfl, ?_⟩)) | (apply Gh.indexAddr; (refine ⟨_, HStep.q rfl (Qs.indexN rfl (ah rfl) (tab_of rfl) (tab_of rfl) rfl (by first | omega | (simp; omega))), ?_⟩; refine ⟨_, rfl, ?_⟩)) | (apply Gh.ext; (refine ⟨_, HStep.q rfl (Qs.ext (ah rfl) rfl), ?_⟩; refine ⟨_, rfl, ?_⟩)) | (apply Gh.callv; (refine ⟨_, HStep.q rfl (Qs.call (ah rfl) (RmMul_abs m (tAt P k).m hm (hPi _ ht) (hmP _ ht)) (by first | ((repeat (first | exact ArgsLe.nil | refine ArgsLe.cons rfl (D.le.refl _) ?_ | refine ArgsLe.cons rfl D.le_nil ?_)); done) | fail)), ?_⟩; refine ⟨_, rfl, ?_⟩)))
   repeat (first | apply AWp.seq | apply AWp.region | (apply Ga.store; refine AWs.stF (ao rfl) (ao rfl) rfl (tab_of rfl) rfl rfl rfl ?_) | (refine AWs.q rfl rfl ?_; first | (apply Gt.move; refine ⟨_, Qs.move (ao rfl), ?_⟩) | (apply Gt.assign; refine ⟨_, Qs.assign (ao rfl), ?_⟩) | (apply Gt.bin; refine ⟨_, Qs.cmpF rfl (ao rfl) (ao rfl) (by first | (simp only [cmpP, List.length_cons, List.length_nil]; omega) | (simp [cmpP]; done) | (simp [cmpP]; omega)), ?_⟩)) | apply OnlyN.mk' | apply AWl.nil | apply AThen.normal | apply AWp.skip | (apply Gc.cond; refine AWp.condF (ao rfl) ?_))
   refine AWp.dr' (DrawOk.self (by kernel_rfl)) [[], [], [], [], [(36, 2), (37, 3)], [(38, 4)], [(39, 5)], [(35, 1), (40, 6)], [], [(41, 7), (42, 8)], [(43, 9)]] [[], [], [], [], [2, 3], [2, 3, 4], [2, 3, 4, 5], [1, 2, 3, 4, 5, 6], [], [1, 2, 3, 4, 5, 6, 7, 8], [1, 2, 3, 4, 5, 6, 7, 8, 9]] rfl (by kernel_rfl) (by kernel_rfl) (by kernel_rfl) ?_
   repeat (first | refine ⟨_, rfl, ?_⟩ | (apply Gh.move; (refine ⟨_, HStep.q rfl (Qs.move (ah rfl)), ?_⟩; refine ⟨_, rfl, ?_⟩)) | (apply Gh.load; first | (refine ⟨_, HStep.q rfl (Qs.ldD (ah rfl) rfl (tab_of rfl) rfl rfl), ?_⟩; refine ⟨_, rfl, ?_⟩) | (refine ⟨_, HStep.q rfl (Qs.ldE (ah rfl) (tab_of rfl) rfl rfl), ?_⟩; refine ⟨_, rfl, ?_⟩)) | (apply Gh.fieldAddr; (refine ⟨_, HStep.q rfl (Qs.fldE (ah rfl) (tab_of rfl) rfl (tab_of rfl) rfl rfl), ?_⟩; refine ⟨_, rfl, ?_⟩)) | (apply Gh.indexAddr; (refine ⟨_, HStep.q rfl (Qs.indexN rfl (ah rfl) (tab_of rfl) (tab_of rfl) rfl (by first | omega | (simp; omega))), ?_⟩; refine ⟨_, rfl, ?_⟩)) | (apply Gh.bslice; (refine ⟨_, HStep.q rfl (Bq.slice1 (ah rfl) (tab_of rfl) (tab_of rfl) rfl rfl rfl rfl rfl), ?_⟩; refine ⟨_, rfl, ?_⟩)) | (apply Gh.build; (refine Hq rfl ?_; refine Bq.build (tab_of rfl) rfl rfl rfl ?_; (repeat ((first | refine ⟨_, PartOk.ag (ah rfl), ?_⟩ | refine ⟨_, PartOk.one rfl (by first | exact One.ex_ rfl | exact One.sl | exact One.ep), ?_⟩); refine ⟨_, rfl, ?_⟩)); refine ⟨_, rfl, ?_⟩; refine ⟨_, rfl, ?_⟩)) | (apply Gh.callv; (refine ⟨_, HStep.q rfl (Qs.call (ah rfl) (RMul_abs c (tAt P k).c N M hcs (hP _ ht) hNM) (by first | ((repeat (first | exact ArgsLe.nil | refine ArgsLe.cons rfl (D.le.refl _) ?_ | refine ArgsLe.cons rfl D.le_nil ?_)); done) | fail)), ?_⟩; refine ⟨_, rfl, ?_⟩)))
   repeat (first | apply AWp.region | (apply Ga.app; refine AWs.app (ao rfl) rfl rfl (tab_of rfl) (tab_of rfl) rfl rfl (by simp; omega) (by simp; omega) rfl (by first | ((repeat (first | exact PlainHp.nil | refine PlainHp.var ?_ | refine PlainHp.row ?_ | refine PlainHp.dead ?_)); done) | fail) rfl ?_) | (refine AWs.q rfl rfl ?_; first | (apply Gt.move; refine ⟨_, Qs.move (ao rfl), ?_⟩) | (apply Gt.assign; refine ⟨_, Qs.assign (ao rfl), ?_⟩) | (apply Gt.add; refine ⟨_, Qs.succ (ao rfl) (ao rfl) (by omega), ?_⟩)) | apply AWl.nil | apply AThen.normal | apply ABlock.normal)
   refine ALoop.next (P.length - (k + 1)) (by omega) ⟨k + 1, by omega, rfl, rfl⟩ ?_
   exact AS.le_of (by repeat (first | exact FrLe.nil | refine FrLe.cons rfl (AVle.d rfl) ?_ | refine FrLe.cons rfl (AVle.own rfl) ?_ | refine FrLe.cons rfl (AVle.ptr rfl) ?_)) (by repeat (first | exact HpLe.nil | refine HpLe.cons (OwLe.row ((map_snoc tmC _ ⟨c * (tAt P k).c, add8 m (tAt P k).m⟩).trans (by rw [← htk]; simp [tms]))) ?_ | refine HpLe.cons (OwLe.varD rfl) ?_))
  ·obtain rfl : k = P.length := by omega
   repeat (first | apply AWp.seq | apply AWp.region | (refine AWs.q rfl rfl ?_; first | (apply Gt.move; refine ⟨_, Qs.move (ao rfl), ?_⟩) | (apply Gt.assign; refine ⟨_, Qs.assign (ao rfl), ?_⟩) | (apply Gt.len; refine ⟨_, Qs.lenN rfl (tab_of rfl), ?_⟩) | (apply Gt.bin; refine ⟨_, Qs.cmpF rfl (ao rfl) (ao rfl) (by first | (simp only [cmpP, List.length_cons, List.length_nil]; omega) | (simp [cmpP]; done) | (simp [cmpP]; omega)), ?_⟩)) | apply AWl.nil | apply AThen.normal | apply AWp.exit | apply AWp.ret | apply AThen.exit | apply ABlock.hit | apply ALoop.exit | (apply Gc.cond; refine AWp.condF (ao rfl) ?_))
   exact Fin.ret (Rets.of2 (ResV.tmp rfl rfl) (ResV.tmp rfl rfl) (D.le.tup2 (D.le.of_eq (by rw [List.take_length]; rfl)) (D.le.refl _)))
def sclL (c : Rat) (P : List Tm) : List Tm := if c = 0 then [] else tms c (fun _ => 0) P
theorem RScale_abs (c : Rat) (P : List Tm) (N M : Nat) (hcs : RSz c N) (hP : PSz P M) (hPi : PIn P 0 65535) (hn : P.length ≤ 100000) (hNM : N + M ≤ 4398046511103) : Abs Tryz.prog 104 [agD (ratC c), polD P] (polD (sclL c P)) := by
 by_cases hc : c = 0
 ·refine Abs.intro Tryz.func104 rfl (callFunc_run Tryz.func104 (by kernel_rfl) (by kernel_rfl)) rfl fun s0 => ?_
  rw [Tryz.ntmps104]
  repeat (first | apply AWp.seq | apply AWp.region | (apply Ga.box; refine AWs.bx (ao rfl) rfl rfl rfl rfl ?_) | (refine AWs.q rfl rfl ?_; first | (apply Gt.move; refine ⟨_, Qs.move (ao rfl), ?_⟩) | (apply Gt.assign; refine ⟨_, Qs.assign (ao rfl), ?_⟩) | (apply Gt.load; refine ⟨_, Qs.ldD (ao rfl) rfl (tab_of rfl) rfl rfl, ?_⟩) | (apply Gt.ext; refine ⟨_, Qs.ext (ao rfl) rfl, ?_⟩) | (apply Gt.build; (refine Bq.arr (tab_of rfl) (tab_of rfl) rfl rfl ?_; (repeat ((first | refine ⟨_, PartOk.ag (ao rfl), ?_⟩ | refine ⟨_, PartOk.one rfl (by first | exact One.ex_ rfl | exact One.sl | exact One.ep), ?_⟩); refine ⟨_, rfl, ?_⟩)); refine ⟨_, rfl, ?_⟩)) | (apply Gt.callv; refine ⟨_, Qs.call (ao rfl) (RTimes0_abs c (fun _ => 0) P hc) (by first | ((repeat (first | exact ArgsLe.nil | refine ArgsLe.cons rfl (D.le.refl _) ?_ | refine ArgsLe.cons rfl D.le_nil ?_)); done) | fail), ?_⟩)) | apply AWl.nil | apply AThen.normal | apply AWp.ret)
  exact Fin.ret (Rets.of1 (ResV.tmp rfl rfl) (D.le_pol (by rw [sclL, if_pos hc])))
 ·refine Abs.intro Tryz.func104 rfl (callFunc_run Tryz.func104 (by kernel_rfl) (by kernel_rfl)) rfl fun s0 => ?_
  rw [Tryz.ntmps104]
  repeat (first | apply AWp.seq | apply AWp.region | (apply Ga.box; refine AWs.bx (ao rfl) rfl rfl rfl rfl ?_) | (refine AWs.q rfl rfl ?_; first | (apply Gt.move; refine ⟨_, Qs.move (ao rfl), ?_⟩) | (apply Gt.assign; refine ⟨_, Qs.assign (ao rfl), ?_⟩) | (apply Gt.load; refine ⟨_, Qs.ldD (ao rfl) rfl (tab_of rfl) rfl rfl, ?_⟩) | (apply Gt.ext; refine ⟨_, Qs.ext (ao rfl) rfl, ?_⟩) | (apply Gt.build; (refine Bq.arr (tab_of rfl) (tab_of rfl) rfl rfl ?_; (repeat ((first | refine ⟨_, PartOk.ag (ao rfl), ?_⟩ | refine ⟨_, PartOk.one rfl (by first | exact One.ex_ rfl | exact One.sl | exact One.ep), ?_⟩); refine ⟨_, rfl, ?_⟩)); refine ⟨_, rfl, ?_⟩)) | (apply Gt.callv; refine ⟨_, Qs.call (ao rfl) (RTimes_abs c (fun _ => 0) P N M hc hcs In8.zero hP hPi (fun t ht => by rw [zero_add8]; exact hPi t ht) hn hNM) (by first | ((repeat (first | exact ArgsLe.nil | refine ArgsLe.cons rfl (D.le.refl _) ?_ | refine ArgsLe.cons rfl D.le_nil ?_)); done) | fail), ?_⟩)) | apply AWl.nil | apply AThen.normal | apply AWp.ret)
  exact Fin.ret (Rets.of1 (ResV.tmp rfl rfl) (D.le_pol (by rw [sclL, if_neg hc])))
theorem tms_psz {c : Rat} {m : Nat → Int} {P : List Tm} {N M : Nat} (hc : RSz c N) (hP : PSz P M) : PSz (tms c m P) (N + M) := fun t ht => by
 obtain ⟨s, hs, rfl⟩ := List.mem_map.1 ht
 exact hc.mul (hP s hs)
theorem sclL_psz {c : Rat} {P : List Tm} {N M : Nat} (hc : RSz c N) (hP : PSz P M) : PSz (sclL c P) (N + M) := by
 unfold sclL
 split
 ·intro t ht; cases ht
 ·exact tms_psz hc hP
theorem sclL_length (c : Rat) (P : List Tm) : (sclL c P).length ≤ P.length := by
 unfold sclL
 split <;> simp
theorem rsz_sm {x : Int} (h0 : -1000 ≤ x) (h1 : x ≤ 1000) : RSz ((x : Int) : Rat) 1 := by
 refine ⟨?_, ?_⟩
 ·show (digs (x : Int).natAbs).length ≤ 1
  exact len_of_lt (by simp only [BB, Nat.pow_one]; omega)
 ·show (digs 1).length ≤ 1
  exact len_of_lt (by simp only [BB, Nat.pow_one]; omega)
theorem RSub_abs (P Q : List Tm) (N M : Nat) (hP : PSz P N) (hQ : PSz Q M) (hQi : PIn Q 0 65535) (hNM : N + M + 2 ≤ 4398046511103) (hn : P.length + Q.length ≤ 100000) : Abs Tryz.prog 57 [polD P, polD Q] (polD (mrg P (sclL (-1 : Int) Q))) := by
 have h1 : RSz ((-1 : Int) : Rat) 1 := rsz_sm (by omega) (by omega)
 have hl := sclL_length (-1 : Int) Q
 refine Abs.intro Tryz.func57 rfl (callFunc_run Tryz.func57 (by kernel_rfl) (by kernel_rfl)) rfl fun s0 => ?_
 rw [Tryz.ntmps57]
 repeat (first | apply AWp.seq | apply AWp.region | (refine AWs.q rfl rfl ?_; first | (apply Gt.move; refine ⟨_, Qs.move (ao rfl), ?_⟩) | (apply Gt.assign; refine ⟨_, Qs.assign (ao rfl), ?_⟩) | (apply Gt.callv; first | refine ⟨_, Qs.call (ao rfl) (RWhole_abs (-1) (by omega) (by omega)) (by first | ((repeat (first | exact ArgsLe.nil | refine ArgsLe.cons rfl (D.le.refl _) ?_ | refine ArgsLe.cons rfl D.le_nil ?_)); done) | fail), ?_⟩ | refine ⟨_, Qs.call (ao rfl) (RScale_abs (-1 : Int) Q 1 M h1 hQ hQi (by omega) (by omega)) (by first | ((repeat (first | exact ArgsLe.nil | refine ArgsLe.cons rfl (D.le.refl _) ?_ | refine ArgsLe.cons rfl D.le_nil ?_)); done) | fail), ?_⟩ | refine ⟨_, Qs.call (ao rfl) (RAdd_pol P (sclL (-1 : Int) Q) N (1 + M) hP (sclL_psz h1 hQ) (by omega) (by omega)) (by first | ((repeat (first | exact ArgsLe.nil | refine ArgsLe.cons rfl (D.le.refl _) ?_ | refine ArgsLe.cons rfl D.le_nil ?_)); done) | fail), ?_⟩)) | apply AWl.nil | apply AThen.normal | apply AWp.ret)
 exact Fin.ret (Rets.of1 (ResV.tmp rfl rfl) (D.le.refl _))
end Go.Proofs.YteicdddphdomkaaGreat
namespace Go.Proofs.YteicdddphdomkaaGreat
open Go.RowKit
theorem Canon.nil : Canon [] := ⟨List.Pairwise.nil, fun t h => by cases h⟩
theorem Canon.single {t : Tm} (h : t.c ≠ 0) : Canon [t] := ⟨List.pairwise_singleton _ _, fun u hu => by rw [List.mem_singleton.1 hu]; exact h⟩
theorem mrg_psz {N M : Nat} : ∀ {P Q : List Tm}, PSz P N → PSz Q M → PSz (mrg P Q) (N + M + 1)
 | [], Q, _, h => by simp only [mrg]; exact h.mono (by omega)
 | s :: P, [], h, _ => by simp only [mrg]; exact h.mono (by omega)
 | s :: P, t :: Q, hP, hQ => by
  have hP' : PSz P N := fun u hu => hP u (by simp [hu])
  have hQ' : PSz Q M := fun u hu => hQ u (by simp [hu])
  have con : ∀ {x : Tm} {L : List Tm}, RSz x.c (N + M + 1) → PSz L (N + M + 1) → PSz (x :: L) (N + M + 1) := fun h1 h2 u hu => by
   rcases List.mem_cons.1 hu with rfl | hu
   ·exact h1
   ·exact h2 u hu
  rw [mrg]
  split
  ·exact con ((hP s (by simp)).mono (by omega)) (mrg_psz hP' hQ)
  ·split
   ·exact con ((hQ t (by simp)).mono (by omega)) (mrg_psz hP hQ')
   ·split
    ·exact mrg_psz hP' hQ'
    ·exact con ((hP s (by simp)).add (hQ t (by simp))) (mrg_psz hP' hQ')
termination_by P Q => P.length + Q.length
theorem mrg_pin {P Q : List Tm} {a b : Int} (hP : PIn P a b) (hQ : PIn Q a b) : PIn (mrg P Q) a b := fun u hu => by
 rcases mrg_mem P Q u hu with ⟨s, hs, e⟩ | ⟨s, hs, e⟩
 ·rw [← e]; exact hP s hs
 ·rw [← e]; exact hQ s hs
theorem SameL.symm : ∀ {P Q : List Tm}, SameL P Q → SameL Q P
 | [], [], _ => trivial
 | _ :: _, _ :: _, h => ⟨h.1.symm, h.2.1.symm, SameL.symm h.2.2⟩
 | [], _ :: _, h => h.elim
 | _ :: _, [], h => h.elim
structure PB (P : List Tm) (n N : Nat) (d : Int) : Prop where
 can : Canon P
 len : P.length ≤ n
 sz : PSz P N
 ex : PIn P 0 d
theorem PB.mono {P : List Tm} {n N n' N' : Nat} {d d' : Int} (h : PB P n N d) (h1 : n ≤ n') (h2 : N ≤ N') (h3 : d ≤ d') : PB P n' N' d' := ⟨h.can, Nat.le_trans h.len h1, h.sz.mono h2, h.ex.mono (Int.le_refl _) h3⟩
theorem PB.nil {n N : Nat} {d : Int} : PB [] n N d := ⟨Canon.nil, Nat.zero_le _, fun t h => (by cases h), fun t h => (by cases h)⟩
theorem PB.add {P Q : List Tm} {n N n' N' : Nat} {d d' : Int} (h : PB P n N d) (k : PB Q n' N' d') : PB (mrg P Q) (n + n') (N + N' + 1) (max d d') :=
 ⟨mrg_canon h.can k.can, by have := mrg_length P Q; have := h.len; have := k.len; omega, mrg_psz h.sz k.sz, mrg_pin (h.ex.mono (Int.le_refl _) (by omega)) (k.ex.mono (Int.le_refl _) (by omega))⟩
def neg (P : List Tm) : List Tm := P.map (fT fun q => -q)
theorem dec_map {f : Tm → Tm} {P : List Tm} (h : Dec P) (hf : ∀ s ∈ P, ∀ t ∈ P, 0 < lx s.m t.m → 0 < lx (f s).m (f t).m) : Dec (P.map f) := by
 refine List.pairwise_map.2 (List.Pairwise.imp_of_mem (fun {a b} ha hb hab => hf a ha b hb hab) h)
theorem neg_canon {P : List Tm} (h : Canon P) : Canon (neg P) := ⟨dec_map h.1 fun _ _ _ _ h => h, fun t ht => by
 obtain ⟨s, hs, rfl⟩ := List.mem_map.1 ht
 intro e
 have e : -s.c = 0 := e
 exact h.2 s hs (by grind)⟩
theorem PB.neg {P : List Tm} {n N : Nat} {d : Int} (h : PB P n N d) : PB (neg P) n N d := ⟨neg_canon h.can, by rw [Go.Proofs.YteicdddphdomkaaGreat.neg, List.length_map]; exact h.len, fun t ht => by
 obtain ⟨s, hs, rfl⟩ := List.mem_map.1 ht
 exact (h.sz s hs).neg, fun t ht => by
 obtain ⟨s, hs, rfl⟩ := List.mem_map.1 ht
 exact h.ex s hs⟩
theorem neg_dot (f : (Nat → Int) → Rat) : ∀ P : List Tm, dot f (neg P) = -dot f P
 | [] => by simp [neg, dot]
 | t :: P => by
  have := neg_dot f P
  simp only [neg, List.map_cons, dot, fT] at this ⊢
  rw [this]; grind
def psub (P Q : List Tm) : List Tm := mrg P (neg Q)
theorem PB.sub {P Q : List Tm} {n N n' N' : Nat} {d d' : Int} (h : PB P n N d) (k : PB Q n' N' d') : PB (psub P Q) (n + n') (N + N' + 1) (max d d') := h.add k.neg
theorem rat_mul_ne {a b : Rat} (ha : a ≠ 0) (hb : b ≠ 0) : a * b ≠ 0 := fun e => by
 rcases Rat.mul_eq_zero.1 e with h | h
 ·exact ha h
 ·exact hb h
theorem tms_canon {c : Rat} {m : Nat → Int} {P : List Tm} (hc : c ≠ 0) (h : Canon P) : Canon (tms c m P) := ⟨dec_map h.1 fun s _ t _ h => by
 show 0 < lx (add8 m s.m) (add8 m t.m)
 rwa [add8_comm m, add8_comm m, lx_add], fun t ht => by
 obtain ⟨s, hs, rfl⟩ := List.mem_map.1 ht
 exact rat_mul_ne hc (h.2 s hs)⟩
theorem add8_in {a b : Nat → Int} {d e : Int} (ha : In8 a 0 d) (hb : In8 b 0 e) : In8 (add8 a b) 0 (d + e) := fun i hi => by
 have := ha i hi
 have := hb i hi
 simp only [add8]
 omega
theorem tms_pb {t : Tm} {P : List Tm} {n N N0 : Nat} {d d0 : Int} (h : PB P n N d) (hc : t.c ≠ 0) (hs : RSz t.c N0) (hm : In8 t.m 0 d0) : PB (tms t.c t.m P) n (N0 + N) (d0 + d) :=
 ⟨tms_canon hc h.can, by rw [tms_length]; exact h.len, tms_psz hs h.sz, fun u hu => by
  obtain ⟨s, hs, rfl⟩ := List.mem_map.1 hu
  exact add8_in hm (h.ex s hs)⟩
def mulTo (A P Q : List Tm) : List Tm := P.foldl (fun a s => mrg a (tms s.c s.m Q)) A
def pmul (P Q : List Tm) : List Tm := mulTo [] P Q
theorem mulTo_pb {Q : List Tm} {n' N' N : Nat} {d d' : Int} (hQ : PB Q n' N' d') : ∀ {P A : List Tm} {k K : Nat}, (∀ t ∈ P, t.c ≠ 0) → PSz P N → PIn P 0 d → PB A k K (d + d') → PB (mulTo A P Q) (k + P.length * n') (K + P.length * (N + N' + 1)) (d + d')
 | [], A, k, K, _, _, _, h => by simpa [mulTo] using h
 | t :: P, A, k, K, h1, h2, h3, h => by
  have ht := tms_pb (t := t) (d0 := d) hQ (h1 t (by simp)) (h2 t (by simp)) (h3 t (by simp))
  have h4 : PB (mrg A (tms t.c t.m Q)) (k + n') (K + (N + N' + 1)) (d + d') := (h.add ht).mono (Nat.le_refl _) (by omega) (by omega)
  have := mulTo_pb hQ (P := P) (fun u hu => h1 u (by simp [hu])) (fun u hu => h2 u (by simp [hu])) (fun u hu => h3 u (by simp [hu])) h4
  refine this.mono ?_ ?_ (Int.le_refl _)
  ·rw [List.length_cons, Nat.succ_mul]; omega
  ·rw [List.length_cons, Nat.succ_mul]; omega
theorem mulTo_sim {Q : List Tm} : ∀ {P A : List Tm}, Sim (mulTo A P Q) (A ++ mulL P Q)
 | [], A => by simp only [mulTo, mulL, List.foldl_nil, List.flatMap_nil, List.append_nil]; exact Sim.refl _
 | t :: P, A => by
  refine (mulTo_sim (P := P) (A := mrg A (tms t.c t.m Q))).trans ?_
  refine ((mrg_sim _ _).append (Sim.refl _)).trans ?_
  simp only [mulL, List.flatMap_cons, tms, List.append_assoc]
  exact Sim.refl _
theorem pmul_sim (P Q : List Tm) : Sim (pmul P Q) (mulL P Q) := mulTo_sim
theorem PB.mul {P Q : List Tm} {n N n' N' : Nat} {d d' : Int} (h : PB P n N d) (k : PB Q n' N' d') (h0 : 0 ≤ d) (h0' : 0 ≤ d') : PB (pmul P Q) (n * n') (n * (N + N' + 1)) (d + d') := by
 have := mulTo_pb (A := []) (k := 0) (K := 0) (d := d) k h.can.2 h.sz h.ex PB.nil
 refine this.mono ?_ ?_ (Int.le_refl _)
 ·rw [Nat.zero_add]; exact Nat.mul_le_mul_right _ h.len
 ·rw [Nat.zero_add]; exact Nat.mul_le_mul_right _ h.len
theorem polD_sim {P Q : List Tm} (hP : Canon P) (hQ : Canon Q) (h : Sim P Q) : polD P = polD Q := polD_same (canon_unique hP hQ h)
theorem neg_sim {P Q : List Tm} (h : Sim P Q) : Sim (neg P) (neg Q) := fun f hf => by rw [neg_dot, neg_dot, h f hf]
theorem PB.same {P Q : List Tm} {n N : Nat} {d : Int} (h : PB P n N d) (hs : SameL P Q) : PB Q n N d := by
 have key : ∀ {P Q : List Tm}, SameL P Q → ∀ t ∈ Q, ∃ s ∈ P, s.c = t.c ∧ Eqv s.m t.m := by
  intro P
  induction P with
  | nil => intro Q h t ht; cases Q with
   | nil => cases ht
   | cons => exact h.elim
  | cons s P ih => intro Q h t ht; cases Q with
   | nil => exact h.elim
   | cons u Q =>
    rcases List.mem_cons.1 ht with rfl | ht
    ·exact ⟨s, by simp, h.1, h.2.1⟩
    ·obtain ⟨x, hx, e⟩ := ih h.2.2 t ht
     exact ⟨x, by simp [hx], e⟩
 have dec : ∀ {P Q : List Tm}, SameL P Q → Dec P → Dec Q := by
  intro P
  induction P with
  | nil => intro Q h _; cases Q with
   | nil => exact List.Pairwise.nil
   | cons => exact h.elim
  | cons s P ih => intro Q h hd; cases Q with
   | nil => exact h.elim
   | cons u Q =>
    have hd := List.pairwise_cons.1 hd
    refine List.pairwise_cons.2 ⟨fun t ht => ?_, ih h.2.2 hd.2⟩
    obtain ⟨x, hx, _, e⟩ := key h.2.2 t ht
    rw [← lx_congr h.2.1 e]
    exact hd.1 x hx
 refine ⟨⟨dec hs h.can.1, fun t ht => ?_⟩, by rw [← hs.length]; exact h.len, fun t ht => ?_, fun t ht => ?_⟩
 ·obtain ⟨s, hs, e, _⟩ := key hs t ht
  rw [← e]; exact h.can.2 s hs
 ·obtain ⟨s, hs, e, _⟩ := key hs t ht
  rw [← e]; exact h.sz s hs
 ·obtain ⟨s, hs, _, e⟩ := key hs t ht
  intro i hi
  rw [← e i hi]; exact h.ex s hs i hi
theorem constL_pb {c : Rat} {N : Nat} (h : RSz c N) {d : Int} (hd : 0 ≤ d) : PB (constL c) 1 N d := by
 unfold constL
 split
 ·exact PB.nil
 ·rename_i hc
  refine ⟨Canon.single hc, by simp, fun t ht => by rw [List.mem_singleton.1 ht]; exact h, fun t ht => by rw [List.mem_singleton.1 ht]; exact fun i hi => ⟨Int.le_refl _, hd⟩⟩
theorem PB.single {t : Tm} {N : Nat} {d : Int} (h : t.c ≠ 0) (hs : RSz t.c N) (hm : In8 t.m 0 d) : PB [t] 1 N d := ⟨Canon.single h, by simp, fun u hu => by rw [List.mem_singleton.1 hu]; exact hs, fun u hu => by rw [List.mem_singleton.1 hu]; exact hm⟩
theorem unitE_in {i : Nat} : In8 (unitE i) 0 1 := fun j _ => by
 unfold unitE setM
 split
 ·omega
 ·exact ⟨Int.le_refl _, (by show (0 : Int) ≤ 1; omega)⟩
end Go.Proofs.YteicdddphdomkaaGreat
namespace Go.Proofs.YteicdddphdomkaaGreat
open Go.RowKit
set_option maxRecDepth 100000
theorem mulTo_take {P Q A : List Tm} {k : Nat} (h : k < P.length) : mulTo A (P.take (k + 1)) Q = mrg (mulTo A (P.take k) Q) (tms (tAt P k).c (tAt P k).m Q) := foldl_tAt (fun a s => mrg a (tms s.c s.m Q)) A h
theorem mulTo_take_pb {P Q : List Tm} {n N n' N' : Nat} {d d' : Int} (h : PB P n N d) (hQ : PB Q n' N' d') (h0 : 0 ≤ d) (h0' : 0 ≤ d') (k : Nat) : PB (mulTo [] (P.take k) Q) (n * n') (n * (N + N' + 1)) (d + d') := by
 have := mulTo_pb (A := []) (k := 0) (K := 0) (d := d) (P := P.take k) hQ (fun t ht => h.can.2 t (List.mem_of_mem_take ht)) (fun t ht => h.sz t (List.mem_of_mem_take ht)) (fun t ht => h.ex t (List.mem_of_mem_take ht)) PB.nil
 have hl : (P.take k).length ≤ n := Nat.le_trans (by rw [List.length_take]; omega) h.len
 refine this.mono ?_ ?_ (Int.le_refl _)
 ·rw [Nat.zero_add]; exact Nat.mul_le_mul_right _ hl
 ·rw [Nat.zero_add]; exact Nat.mul_le_mul_right _ hl
theorem RPMul_pb {P Q : List Tm} {n N n' N' : Nat} {d d' : Int} (hP : PB P n N d) (hQ : PB Q n' N' d') (h0 : 0 ≤ d) (h0' : 0 ≤ d') (hd : d + d' ≤ 65535) (hn0 : n ≤ 100000) (hn : n * n' + n' ≤ 100000) (hN : n * (N + N' + 1) + N + N' + 1 ≤ 4398046511102) : Abs Tryz.prog 115 [polD P, polD Q] (tupD [polD (pmul P Q), ex (.int .i64 0)]) := by
 have hPl := hP.len
 have hQl := hQ.len
 refine Abs.intro Tryz.func115 rfl (callFunc_run Tryz.func115 (by kernel_rfl) (by kernel_rfl)) rfl fun s0 => ?_
 rw [Tryz.ntmps115]
 repeat (first | apply AWp.seq | apply AWp.region | (apply Ga.b0; refine AWs.b0 (tab_of rfl) (tab_of rfl) rfl rfl rfl rfl rfl ?_) | (refine AWs.q rfl rfl ?_; (apply Gt.assign; refine ⟨_, Qs.assign (ao rfl), ?_⟩)) | apply AWl.nil | apply AThen.normal | apply AWp.block)
 refine AWp.loop (fun mz σ => ∃ k, k ≤ P.length ∧ mz = P.length - k ∧ σ = ⟨[(0, .d (polD P)), (1, .d (polD Q)), (6, .d (polD (mulTo [] (P.take k) Q))), (7, .d (ex (.int .i64 (k : Nat))))], []⟩) ?le ⟨0, by omega, rfl, rfl⟩ ?round
 case le => exact AS.le_of (by repeat (first | exact FrLe.nil | refine FrLe.cons rfl (AVle.d rfl) ?_ | refine FrLe.cons rfl (AVle.ownD rfl (D.le.refl _)) ?_)) (by repeat (exact HpLe.nil))
 case round =>
  rintro mz _ ⟨k, hk, rfl, rfl⟩
  by_cases hlt : k < P.length
  ·have ht := tAt_mem hlt
   have hm := hP.ex _ ht
   have hb := mulTo_take_pb hP hQ h0 h0' k
   have hbl := hb.len
   have ht2 := tms_pb (t := tAt P k) hQ (hP.can.2 _ ht) (hP.sz _ ht) hm
   have ht2l := ht2.len
   repeat (first | apply AWp.seq | apply AWp.region | (refine AWs.q rfl rfl ?_; first | (apply Gt.move; refine ⟨_, Qs.move (ao rfl), ?_⟩) | (apply Gt.len; refine ⟨_, Qs.lenN rfl (tab_of rfl), ?_⟩) | (apply Gt.bin; refine ⟨_, Qs.cmpT rfl (ao rfl) (ao rfl) (by first | (simp only [cmpP, List.length_cons, List.length_nil]; omega) | (simp [cmpP]; done) | (simp [cmpP]; omega)), ?_⟩)) | apply AWl.nil | apply AThen.normal | apply AWp.block | apply AWp.skip | (apply Gc.cond; refine AWp.condT (ao rfl) ?_))
   refine AWp.dr' (DrawOk.float (e := 14) (by kernel_rfl) (AddE.keep (AddE.keep (AddE.keep (AddE.keep (AddE.keep (AddE.keep (AddE.keep (AddE.keep (AddE.keep (AddE.keep (AddE.keep (AddE.keep (AddE.keep (AddE.keep (AddE.keep (AddE.add (AddE.keep AddE.nil))))))))))))))))) (by kernel_rfl)) [[], [], [(18, 0), (19, 1)], [(20, 2)], [(21, 3)], [], [], [(23, 5), (24, 6)], [(25, 7)], [(26, 8)], [], [(22, 4), (27, 9), (28, 10)], [(29, 11)], [(17, 12)], [(17, 12)]] [[], [], [0, 1], [0, 1, 2], [0, 1, 2, 3], [], [], [5, 6], [5, 6, 7], [5, 6, 7, 8], [], [0, 1, 2, 3, 4, 5, 6, 7, 8, 9, 10], [0, 1, 2, 3, 4, 5, 6, 7, 8, 9, 10, 11], [0, 1, 2, 3, 4, 5, 6, 7, 8, 9, 10, 11, 12], [0, 1, 2, 3, 4, 5, 6, 7, 8, 9, 10, 11, 12]] rfl (by kernel_rfl) (by kernel_rfl) (by kernel_rfl) ?_
   repeat (first | refine ⟨_, rfl, ?_⟩ | (apply Gh.move; (refine ⟨_, HStep.q rfl (Qs.move (ah rfl)), ?_⟩; refine ⟨_, rfl, ?_⟩)) | (apply Gh.load; first | (refine ⟨_, HStep.q rfl (Qs.loadEf (ah rfl) (tab_of rfl) rfl rfl), ?_⟩; refine ⟨_, rfl, ?_⟩) | (refine ⟨_, HStep.q rfl (Qs.ldE (ah rfl) (tab_of rfl) rfl rfl), ?_⟩; refine ⟨_, rfl, ?_⟩)) | (apply Gh.fieldAddr; (refine ⟨_, HStep.q rfl (Qs.fldE (ah rfl) (tab_of rfl) rfl (tab_of rfl) rfl rfl), ?_⟩; refine ⟨_, rfl, ?_⟩)) | (apply Gh.indexAddr; (refine ⟨_, HStep.q rfl (Qs.indexN rfl (ah rfl) (tab_of rfl) (tab_of rfl) rfl (by first | omega | (simp; omega))), ?_⟩; refine ⟨_, rfl, ?_⟩)) | (apply Gh.ext; (refine ⟨_, HStep.q rfl (Qs.ext (ah rfl) rfl), ?_⟩; refine ⟨_, rfl, ?_⟩)) | (apply Gh.callv; (refine ⟨_, HStep.q rfl (Qs.call (ah rfl) (RTimes_abs (tAt P k).c (tAt P k).m Q N N' (hP.can.2 _ ht) (hP.sz _ ht) (hm.mono (Int.le_refl _) (by omega)) hQ.sz (hQ.ex.mono (Int.le_refl _) (by omega)) (fun t h => (add8_in hm (hQ.ex t h)).mono (Int.le_refl _) hd) (by omega) (by omega)) (by first | ((repeat (first | exact ArgsLe.nil | refine ArgsLe.cons rfl (D.le.refl _) ?_ | refine ArgsLe.cons rfl D.le_nil ?_)); done) | fail)), ?_⟩; refine ⟨_, rfl, ?_⟩)))
   repeat (first | apply AWp.seq | apply AWp.region | (refine AWs.q rfl rfl ?_; first | (apply Gt.move; refine ⟨_, Qs.move (ao rfl), ?_⟩) | (apply Gt.assign; refine ⟨_, Qs.assign (ao rfl), ?_⟩) | (apply Gt.add; refine ⟨_, Qs.succ (ao rfl) (ao rfl) (by omega), ?_⟩) | (apply Gt.bin; refine ⟨_, Qs.cmpF rfl (ao rfl) (ao rfl) (by first | (simp only [cmpP, List.length_cons, List.length_nil]; omega) | (simp [cmpP]; done) | (simp [cmpP]; omega)), ?_⟩) | (apply Gt.callv; refine ⟨_, Qs.call (ao rfl) (RAdd_pol (mulTo [] (P.take k) Q) (tms (tAt P k).c (tAt P k).m Q) (n * (N + N' + 1)) (N + N') hb.sz ht2.sz (by omega) (by omega)) (by first | ((repeat (first | exact ArgsLe.nil | refine ArgsLe.cons rfl (D.le.refl _) ?_ | refine ArgsLe.cons rfl D.le_nil ?_)); done) | fail), ?_⟩)) | apply OnlyN.mk' | apply AWl.nil | apply AThen.normal | apply AWp.skip | apply ABlock.normal | (apply Gc.cond; refine AWp.condF (ao rfl) ?_))
   refine ALoop.next (P.length - (k + 1)) (by omega) ⟨k + 1, by omega, rfl, rfl⟩ ?_
   exact AS.le_of (by repeat (first | exact FrLe.nil | refine FrLe.cons rfl (AVle.d rfl) ?_ | refine FrLe.cons rfl (AVle.le (D.le_pol (mulTo_take hlt).symm)) ?_)) (by repeat (exact HpLe.nil))
  ·obtain rfl : k = P.length := by omega
   repeat (first | apply AWp.seq | apply AWp.region | (refine AWs.q rfl rfl ?_; first | (apply Gt.move; refine ⟨_, Qs.move (ao rfl), ?_⟩) | (apply Gt.assign; refine ⟨_, Qs.assign (ao rfl), ?_⟩) | (apply Gt.len; refine ⟨_, Qs.lenN rfl (tab_of rfl), ?_⟩) | (apply Gt.bin; refine ⟨_, Qs.cmpF rfl (ao rfl) (ao rfl) (by first | (simp only [cmpP, List.length_cons, List.length_nil]; omega) | (simp [cmpP]; done) | (simp [cmpP]; omega)), ?_⟩)) | apply AWl.nil | apply AThen.normal | apply AWp.exit | apply AWp.ret | apply AThen.exit | apply ABlock.hit | apply ALoop.exit | (apply Gc.cond; refine AWp.condF (ao rfl) ?_))
   exact Fin.ret (Rets.of2 (ResV.tmp rfl rfl) (ResV.tmp rfl rfl) (D.le.tup2 (D.le_pol (by rw [List.take_length]; rfl)) (D.le.refl _)))
theorem RBy_pb {P Q : List Tm} {n N n' N' : Nat} {d d' : Int} (hP : PB P n N d) (hQ : PB Q n' N' d') (h0 : 0 ≤ d) (h0' : 0 ≤ d') (hd : d + d' ≤ 65535) (hn0 : n ≤ 100000) (hn : n * n' + n' ≤ 100000) (hN : n * (N + N' + 1) + N + N' + 1 ≤ 4398046511102) : Abs Tryz.prog 47 [polD P, polD Q] (polD (pmul P Q)) := by
 refine Abs.intro Tryz.func47 rfl (callFunc_run Tryz.func47 (by kernel_rfl) (by kernel_rfl)) rfl fun s0 => ?_
 rw [Tryz.ntmps47]
 repeat (first | apply AWp.seq | apply AWp.region | (refine AWs.q rfl rfl ?_; first | (apply Gt.move; refine ⟨_, Qs.move (ao rfl), ?_⟩) | (apply Gt.assign; refine ⟨_, Qs.assign (ao rfl), ?_⟩) | (apply Gt.ext; refine ⟨_, Qs.ext (ao rfl) rfl, ?_⟩) | (apply Gt.callv; refine ⟨_, Qs.call (ao rfl) (RPMul_pb hP hQ h0 h0' hd hn0 hn hN) (by first | ((repeat (first | exact ArgsLe.nil | refine ArgsLe.cons rfl (D.le.refl _) ?_ | refine ArgsLe.cons rfl D.le_nil ?_)); done) | fail), ?_⟩)) | apply AWl.nil | apply AThen.normal | apply AWp.ret)
 exact Fin.ret (Rets.of1 (ResV.tmp rfl rfl) (D.le.refl _))
theorem Abs.le {P : Program} {f : FuncId} {ds : List D} {r r' : D} (h : Abs P f ds r) (hr : D.le r r') : Abs P f ds r' :=
 ⟨h.1, fun s vs h1 h2 h3 => (h.2 s vs h1 h2 h3).mono fun e w' ⟨v, he, s', hw, hl, hv⟩ => ⟨v, he, s', hw, hl, hr _ _ hv⟩⟩
theorem PMul_pb {P Q : List Tm} {n N n' N' : Nat} {d d' : Int} (hP : PB P n N d) (hQ : PB Q n' N' d') (h0 : 0 ≤ d) (h0' : 0 ≤ d') (hd : d + d' ≤ 65535) (hn : n * n' ≤ 100000) (hN : N + N' + 1 ≤ 10000000) : Abs Tryz.prog 18 [polD P, polD Q] (tupD [polD (pmul P Q), ex (.int .i64 0)]) :=
 (PMul_abs P Q N N' hP.sz hQ.sz d d' hP.ex hQ.ex hd h0 h0' (Nat.le_trans (Nat.mul_le_mul hP.len hQ.len) hn) hN).le fun s v hv => by
  obtain ⟨S, ⟨h1, h2, _⟩, h3⟩ := hv
  have h3 : (tupD [polD S, ex (.int .i64 0)]).rel s v := h3
  rwa [polD_sim h1 (hP.mul hQ h0 h0').can (h2.trans (pmul_sim P Q).symm)] at h3
theorem PAdd_pb {P Q : List Tm} {n N n' N' : Nat} {d d' : Int} (hP : PB P n N d) (hQ : PB Q n' N' d') (hn : n + n' ≤ 100000) (hN : N + N' + 1 ≤ 4398046511104) : Abs Tryz.prog 20 [polD P, polD Q] (polD (mrg P Q)) :=
 PAdd_abs P Q N N' hP.sz hQ.sz hN (Nat.le_trans (Nat.add_le_add hP.len hQ.len) hn)
theorem PSub_pb {P Q : List Tm} {n N n' N' : Nat} {d d' : Int} (hP : PB P n N d) (hQ : PB Q n' N' d') (hn : n + n' ≤ 100000) (hN : N + N' + 1 ≤ 4398046511104) : Abs Tryz.prog 21 [polD P, polD Q] (polD (psub P Q)) :=
 PSub_abs P Q N N' hP.sz hQ.sz hN (Nat.le_trans (Nat.add_le_add hP.len hQ.len) hn)
theorem scl_one_neg {Q : List Tm} (hQ : Canon Q) : SameL (sclL (-1 : Int) Q) (neg Q) := by
 rw [sclL, if_neg (by decide)]
 induction Q with
 | nil => trivial
 | cons t Q ih =>
  refine ⟨?_, fun i _ => ?_, ih ⟨(List.pairwise_cons.1 hQ.1).2, fun u hu => hQ.2 u (by simp [hu])⟩⟩
  ·show ((-1 : Int) : Rat) * t.c = -t.c
   have : ((-1 : Int) : Rat) = -1 := rfl
   rw [this]; grind
  ·show 0 + t.m i = t.m i
   omega
theorem RSub_pb {P Q : List Tm} {n N n' N' : Nat} {d d' : Int} (hP : PB P n N d) (hQ : PB Q n' N' d') (hd : d' ≤ 65535) (hn : n + n' ≤ 100000) (hN : N + N' + 2 ≤ 4398046511103) : Abs Tryz.prog 57 [polD P, polD Q] (polD (psub P Q)) := by
 have hs := scl_one_neg hQ.can
 have hc := (hQ.neg.same hs.symm).can
 exact (RSub_abs P Q N N' hP.sz hQ.sz (hQ.ex.mono (Int.le_refl _) hd) hN (Nat.le_trans (Nat.add_le_add hP.len hQ.len) hn)).le (D.le.of_eq (polD_sim (mrg_canon hP.can hc) (mrg_canon hP.can hQ.neg.can) ((mrg_sim _ _).trans (((Sim.refl P).append hs.sim).trans (mrg_sim _ _).symm))))
theorem RSame_true {P Q : List Tm} (h : SameL P Q) : Abs Tryz.prog 19 [polD P, polD Q] (ex (.bool true)) := by
 have := RSame_abs P Q
 rwa [sameB_true.2 h] at this
theorem RSame_sim {P Q : List Tm} (hP : Canon P) (hQ : Canon Q) (h : Sim P Q) : Abs Tryz.prog 19 [polD P, polD Q] (ex (.bool true)) := RSame_true (canon_unique hP hQ h)
theorem PValid_pb {P : List Tm} {n N : Nat} {d : Int} (h : PB P n N d) (hd : d ≤ 65535) (hN : N ≤ 1000000000) (hn : n ≤ 1000000) : Abs Tryz.prog 14 [polD P] (ex (.bool true)) := PValidP_abs P N h.can (h.ex.mono (Int.le_refl _) hd) h.sz hN (Nat.le_trans h.len hn)
theorem RPValid_pb {P : List Tm} {n N : Nat} {d : Int} (h : PB P n N d) (hd : d ≤ 65535) (hN : N ≤ 1000000000) (hn : n ≤ 1000000) : Abs Tryz.prog 15 [polD P] (ex (.bool true)) := RPValidP_abs P N h.can (h.ex.mono (Int.le_refl _) hd) h.sz hN (Nat.le_trans h.len hn)
end Go.Proofs.YteicdddphdomkaaGreat
