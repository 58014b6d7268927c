/-
  The law OrderAdmissible returns true for every input: Cmp is a total order, 1 is its least monomial, and multiplying by a monomial keeps it.
-/
import Derived.Test.YteefhmdameeoaaaStores
import Derived.Test.YteefhmdameeoaaaP8
import Derived.Test.YteefhmdameeoaaaBridge
set_option linter.unusedSimpArgs false
set_option linter.unusedVariables false
namespace Go.Proofs.Yteefhmdameeoaaa
open Go.ChangeShapes Go.WideShapes Go.ChangeAt Go.RowKit Go.Deep

theorem monoOf_pos {x : Nat → Int} (h : In8 x 0 65535) : ∀ i, i < 8 → 0 ≤ monoOf x i := fun i hi => (monoOf_in h i hi).1

set_option maxRecDepth 100000 in
set_option maxHeartbeats 16000000 in
theorem admis_walk (v : Value) (X : List (Nat → Int)) (x0 x1 x2 : Nat → Int) (w : World) (hv : RowsIn .i8 w v X) (hX : ∀ r ∈ X, In8 r (-128) 127) (hx0 : In8 x0 0 65535) (hx1 : In8 x1 0 65535) (hx2 : In8 x2 0 65535) :
    Calls Try.prog 6 #[.agg #[v], .agg #[.int .u16 (x0 0), .int .u16 (x0 1), .int .u16 (x0 2), .int .u16 (x0 3), .int .u16 (x0 4), .int .u16 (x0 5), .int .u16 (x0 6), .int .u16 (x0 7), .int .u16 (x1 0), .int .u16 (x1 1), .int .u16 (x1 2), .int .u16 (x1 3), .int .u16 (x1 4), .int .u16 (x1 5), .int .u16 (x1 6), .int .u16 (x1 7), .int .u16 (x2 0), .int .u16 (x2 1), .int .u16 (x2 2), .int .u16 (x2 3), .int .u16 (x2 4), .int .u16 (x2 5), .int .u16 (x2 6), .int .u16 (x2 7)]] w fun e w' => e = .returned (.bool true) ∧ Ext w w' := by
  obtain ⟨A0, c0, rfl, k0⟩ := id hv
  clear k0
  have hb2 : Hid (Blk ((w.alloc (.cells #[.slice A0 X.length c0] 24)).alloc (.cells #[.int .u16 (x0 0), .int .u16 (x0 1), .int .u16 (x0 2), .int .u16 (x0 3), .int .u16 (x0 4), .int .u16 (x0 5), .int .u16 (x0 6), .int .u16 (x0 7), .int .u16 (x1 0), .int .u16 (x1 1), .int .u16 (x1 2), .int .u16 (x1 3), .int .u16 (x1 4), .int .u16 (x1 5), .int .u16 (x1 6), .int .u16 (x1 7), .int .u16 (x2 0), .int .u16 (x2 1), .int .u16 (x2 2), .int .u16 (x2 3), .int .u16 (x2 4), .int .u16 (x2 5), .int .u16 (x2 6), .int .u16 (x2 7)] 54)) w.heap.size 24 #[.slice A0 X.length c0]) := (Blk.new _ _ _).alloc _
  have hb3 : Hid (Blk ((w.alloc (.cells #[.slice A0 X.length c0] 24)).alloc (.cells #[.int .u16 (x0 0), .int .u16 (x0 1), .int .u16 (x0 2), .int .u16 (x0 3), .int .u16 (x0 4), .int .u16 (x0 5), .int .u16 (x0 6), .int .u16 (x0 7), .int .u16 (x1 0), .int .u16 (x1 1), .int .u16 (x1 2), .int .u16 (x1 3), .int .u16 (x1 4), .int .u16 (x1 5), .int .u16 (x1 6), .int .u16 (x1 7), .int .u16 (x2 0), .int .u16 (x2 1), .int .u16 (x2 2), .int .u16 (x2 3), .int .u16 (x2 4), .int .u16 (x2 5), .int .u16 (x2 6), .int .u16 (x2 7)] 54)) (w.heap.size + 1) 54 #[.int .u16 (x0 0), .int .u16 (x0 1), .int .u16 (x0 2), .int .u16 (x0 3), .int .u16 (x0 4), .int .u16 (x0 5), .int .u16 (x0 6), .int .u16 (x0 7), .int .u16 (x1 0), .int .u16 (x1 1), .int .u16 (x1 2), .int .u16 (x1 3), .int .u16 (x1 4), .int .u16 (x1 5), .int .u16 (x1 6), .int .u16 (x1 7), .int .u16 (x2 0), .int .u16 (x2 1), .int .u16 (x2 2), .int .u16 (x2 3), .int .u16 (x2 4), .int .u16 (x2 5), .int .u16 (x2 6), .int .u16 (x2 7)]) := Blk.new' _ _ (by simp)
  have hE0 : Hid (Ext w ((w.alloc (.cells #[.slice A0 X.length c0] 24)).alloc (.cells #[.int .u16 (x0 0), .int .u16 (x0 1), .int .u16 (x0 2), .int .u16 (x0 3), .int .u16 (x0 4), .int .u16 (x0 5), .int .u16 (x0 6), .int .u16 (x0 7), .int .u16 (x1 0), .int .u16 (x1 1), .int .u16 (x1 2), .int .u16 (x1 3), .int .u16 (x1 4), .int .u16 (x1 5), .int .u16 (x1 6), .int .u16 (x1 7), .int .u16 (x2 0), .int .u16 (x2 1), .int .u16 (x2 2), .int .u16 (x2 3), .int .u16 (x2 4), .int .u16 (x2 5), .int .u16 (x2 6), .int .u16 (x2 7)] 54))) := ((Ext.refl w).alloc _).alloc _
  replace hv := hide hv
  replace hX := hide hX
  replace hx0 := hide hx0
  replace hx1 := hide hx1
  replace hx2 := hide hx2
  go_enter Try.func6, Try.ntmps6
  go_wp2_with fail
  generalize ((w.alloc (.cells #[.slice A0 X.length c0] 24)).alloc (.cells #[.int .u16 (x0 0), .int .u16 (x0 1), .int .u16 (x0 2), .int .u16 (x0 3), .int .u16 (x0 4), .int .u16 (x0 5), .int .u16 (x0 6), .int .u16 (x0 7), .int .u16 (x1 0), .int .u16 (x1 1), .int .u16 (x1 2), .int .u16 (x1 3), .int .u16 (x1 4), .int .u16 (x1 5), .int .u16 (x1 6), .int .u16 (x1 7), .int .u16 (x2 0), .int .u16 (x2 1), .int .u16 (x2 2), .int .u16 (x2 3), .int .u16 (x2 4), .int .u16 (x2 5), .int .u16 (x2 6), .int .u16 (x2 7)] 54)) = wa at *
  refine (examples_any _).mono ?_
  rintro e wq ⟨rfl, hE1⟩
  have hEq := hide (hE0.out.trans hE1)
  replace hb2 := hide (hb2.out.ext hE1)
  replace hb3 := hide (hb3.out.ext hE1)
  have hsq : w.heap.size ≤ wq.heap.size := hEq.out.size
  clear hE1 hE0
  go_upto_region 4 with (fail)
  obtain ⟨B2, hB2⟩ : ∃ B2, B2 = w.heap.size := ⟨_, rfl⟩
  obtain ⟨B3, hB3⟩ : ∃ B3, B3 = w.heap.size + 1 := ⟨_, rfl⟩
  rw [← hB3] at hb3 ⊢
  rw [← hB2] at hb2 ⊢
  replace hB2 := hide hB2
  replace hB3 := hide hB3
  refine RegF.wp_region_v (by kernel_rfl) [[], [(18, 0)], [], [(20, 2)], [(21, 3)], [], [(23, 5)], [(24, 6)], [], [(26, 8)], [(27, 9)], [], [], []] [[], [0], [], [2], [0, 1, 2, 3], [], [5], [0, 1, 2, 3, 4, 5, 6], [], [8], [0, 1, 2, 3, 4, 5, 6, 7, 8, 9], [], [], []]
    [fun v _ => v = .agg #[.slice A0 X.length c0], fun v w' => RowsAt .i64 34 w' v (madeRows X), fun v _ => v = .pointer (some ⟨B3, 0, none⟩), fun v _ => v = .agg #[.int .u16 (x0 0), .int .u16 (x0 1), .int .u16 (x0 2), .int .u16 (x0 3), .int .u16 (x0 4), .int .u16 (x0 5), .int .u16 (x0 6), .int .u16 (x0 7)], fun v _ => v = .agg #[.int .i64 (monoOf x0 0), .int .i64 (monoOf x0 1), .int .i64 (monoOf x0 2), .int .i64 (monoOf x0 3), .int .i64 (monoOf x0 4), .int .i64 (monoOf x0 5), .int .i64 (monoOf x0 6), .int .i64 (monoOf x0 7)], fun v _ => v = .pointer (some ⟨B3, 8, none⟩), fun v _ => v = .agg #[.int .u16 (x1 0), .int .u16 (x1 1), .int .u16 (x1 2), .int .u16 (x1 3), .int .u16 (x1 4), .int .u16 (x1 5), .int .u16 (x1 6), .int .u16 (x1 7)], fun v _ => v = .agg #[.int .i64 (monoOf x1 0), .int .i64 (monoOf x1 1), .int .i64 (monoOf x1 2), .int .i64 (monoOf x1 3), .int .i64 (monoOf x1 4), .int .i64 (monoOf x1 5), .int .i64 (monoOf x1 6), .int .i64 (monoOf x1 7)], fun v _ => v = .pointer (some ⟨B3, 16, none⟩), fun v _ => v = .agg #[.int .u16 (x2 0), .int .u16 (x2 1), .int .u16 (x2 2), .int .u16 (x2 3), .int .u16 (x2 4), .int .u16 (x2 5), .int .u16 (x2 6), .int .u16 (x2 7)], fun v _ => v = .agg #[.int .i64 (monoOf x2 0), .int .i64 (monoOf x2 1), .int .i64 (monoOf x2 2), .int .i64 (monoOf x2 3), .int .i64 (monoOf x2 4), .int .i64 (monoOf x2 5), .int .i64 (monoOf x2 6), .int .i64 (monoOf x2 7)], NewM wq.heap.size, NewM wq.heap.size, NewM wq.heap.size]
    rfl (by kernel_rfl) (by kernel_rfl) ?stab ?steps ?fin
  case stab => exact .cons (Stab.eq _) (.cons (fun _ _ _ he h => h.ext he) (.cons (Stab.eq _) (.cons (Stab.eq _) (.cons (Stab.eq _) (.cons (Stab.eq _) (.cons (Stab.eq _) (.cons (Stab.eq _) (.cons (Stab.eq _) (.cons (Stab.eq _) (.cons (Stab.eq _) (.cons (fun _ _ _ he h => h.ext he) (.cons (fun _ _ _ he h => h.ext he) (.cons (fun _ _ _ he h => h.ext he) .nil)))))))))))))
  case steps =>
    refine .cons ?s0 (.cons ?s1 (.cons ?s2 (.cons ?s3 (.cons ?s4 (.cons ?s5 (.cons ?s6 (.cons ?s7 (.cons ?s8 (.cons ?s9 (.cons ?s10 (.cons ?s11 (.cons ?s12 (.cons ?s13 .nil)))))))))))))
    case s0 =>
      intro w' ev hE hk ha hc hf
      have e2 : ev (.tmp 2) = .pointer (some ⟨B2, 0, none⟩) := ha 2 (by decide)
      have c0 : w'.cell? ⟨B2, 0, none⟩ = some (.slice A0 X.length c0) := hE.cellv (hb2.out.cell 0)
      exact RegF.opStep_val rfl (by simp [execOp, e2, c0, go_sem]) rfl
    case s1 =>
      intro w' ev hE hk ha hc hf
      have e18 : ev (.tmp 18) = .agg #[.slice A0 X.length c0] := hk.1 _ rfl
      refine RegF.opStep_call rfl (by simp [execOp, resolve, invoke, hf, e18, go_sem]) (Made_any _ X _ (hv.out.ext (hEq.out.trans ((Ext.refl _).drew.trans hE))) hX.out) ?_
      rintro e w1 ⟨A, c, rfl, hO, hE1⟩
      exact ⟨_, rfl, hE1, hO.rows⟩
    case s2 =>
      intro w' ev hE hk ha hc hf
      have e3 : ev (.tmp 3) = .pointer (some ⟨B3, 0, none⟩) := ha 3 (by decide)
      exact RegF.opStep_val rfl (by simp [execOp, e3, hc, go_sem]) rfl
    case s3 =>
      intro w' ev hE hk ha hc hf
      have e20 : ev (.tmp 20) = .pointer (some ⟨B3, 0, none⟩) := hk.1 _ rfl
      have c0 : w'.cell? ⟨B3, 0, none⟩ = some (.int .u16 (x0 0)) := hE.cellv (hb3.out.cell 0)
      have c1 : w'.cell? ⟨B3, 1, none⟩ = some (.int .u16 (x0 1)) := hE.cellv (hb3.out.cell 1)
      have c2 : w'.cell? ⟨B3, 2, none⟩ = some (.int .u16 (x0 2)) := hE.cellv (hb3.out.cell 2)
      have c3 : w'.cell? ⟨B3, 3, none⟩ = some (.int .u16 (x0 3)) := hE.cellv (hb3.out.cell 3)
      have c4 : w'.cell? ⟨B3, 4, none⟩ = some (.int .u16 (x0 4)) := hE.cellv (hb3.out.cell 4)
      have c5 : w'.cell? ⟨B3, 5, none⟩ = some (.int .u16 (x0 5)) := hE.cellv (hb3.out.cell 5)
      have c6 : w'.cell? ⟨B3, 6, none⟩ = some (.int .u16 (x0 6)) := hE.cellv (hb3.out.cell 6)
      have c7 : w'.cell? ⟨B3, 7, none⟩ = some (.int .u16 (x0 7)) := hE.cellv (hb3.out.cell 7)
      exact RegF.opStep_val rfl (by simp [execOp, e20, c0, c1, c2, c3, c4, c5, c6, c7, go_sem]) rfl
    case s4 =>
      intro w' ev hE hk ha hc hf
      have e21 : ev (.tmp 21) = .agg #[.int .u16 (x0 0), .int .u16 (x0 1), .int .u16 (x0 2), .int .u16 (x0 3), .int .u16 (x0 4), .int .u16 (x0 5), .int .u16 (x0 6), .int .u16 (x0 7)] := hk.1 _ rfl
      refine RegF.opStep_call rfl (by simp [execOp, resolve, invoke, hf, e21, go_sem]) (mono_any x0 _ hx0.out) ?_
      rintro e w1 ⟨rfl, hE1⟩
      exact ⟨_, rfl, hE1, rfl⟩
    case s5 =>
      intro w' ev hE hk ha hc hf
      have e3 : ev (.tmp 3) = .pointer (some ⟨B3, 0, none⟩) := ha 3 (by decide)
      exact RegF.opStep_val rfl (by simp [execOp, e3, hc, go_sem]) rfl
    case s6 =>
      intro w' ev hE hk ha hc hf
      have e23 : ev (.tmp 23) = .pointer (some ⟨B3, 8, none⟩) := hk.1 _ rfl
      have c0 : w'.cell? ⟨B3, 8, none⟩ = some (.int .u16 (x1 0)) := hE.cellv (hb3.out.cell 8)
      have c1 : w'.cell? ⟨B3, 9, none⟩ = some (.int .u16 (x1 1)) := hE.cellv (hb3.out.cell 9)
      have c2 : w'.cell? ⟨B3, 10, none⟩ = some (.int .u16 (x1 2)) := hE.cellv (hb3.out.cell 10)
      have c3 : w'.cell? ⟨B3, 11, none⟩ = some (.int .u16 (x1 3)) := hE.cellv (hb3.out.cell 11)
      have c4 : w'.cell? ⟨B3, 12, none⟩ = some (.int .u16 (x1 4)) := hE.cellv (hb3.out.cell 12)
      have c5 : w'.cell? ⟨B3, 13, none⟩ = some (.int .u16 (x1 5)) := hE.cellv (hb3.out.cell 13)
      have c6 : w'.cell? ⟨B3, 14, none⟩ = some (.int .u16 (x1 6)) := hE.cellv (hb3.out.cell 14)
      have c7 : w'.cell? ⟨B3, 15, none⟩ = some (.int .u16 (x1 7)) := hE.cellv (hb3.out.cell 15)
      exact RegF.opStep_val rfl (by simp [execOp, e23, c0, c1, c2, c3, c4, c5, c6, c7, go_sem]) rfl
    case s7 =>
      intro w' ev hE hk ha hc hf
      have e24 : ev (.tmp 24) = .agg #[.int .u16 (x1 0), .int .u16 (x1 1), .int .u16 (x1 2), .int .u16 (x1 3), .int .u16 (x1 4), .int .u16 (x1 5), .int .u16 (x1 6), .int .u16 (x1 7)] := hk.1 _ rfl
      refine RegF.opStep_call rfl (by simp [execOp, resolve, invoke, hf, e24, go_sem]) (mono_any x1 _ hx1.out) ?_
      rintro e w1 ⟨rfl, hE1⟩
      exact ⟨_, rfl, hE1, rfl⟩
    case s8 =>
      intro w' ev hE hk ha hc hf
      have e3 : ev (.tmp 3) = .pointer (some ⟨B3, 0, none⟩) := ha 3 (by decide)
      exact RegF.opStep_val rfl (by simp [execOp, e3, hc, go_sem]) rfl
    case s9 =>
      intro w' ev hE hk ha hc hf
      have e26 : ev (.tmp 26) = .pointer (some ⟨B3, 16, none⟩) := hk.1 _ rfl
      have c0 : w'.cell? ⟨B3, 16, none⟩ = some (.int .u16 (x2 0)) := hE.cellv (hb3.out.cell 16)
      have c1 : w'.cell? ⟨B3, 17, none⟩ = some (.int .u16 (x2 1)) := hE.cellv (hb3.out.cell 17)
      have c2 : w'.cell? ⟨B3, 18, none⟩ = some (.int .u16 (x2 2)) := hE.cellv (hb3.out.cell 18)
      have c3 : w'.cell? ⟨B3, 19, none⟩ = some (.int .u16 (x2 3)) := hE.cellv (hb3.out.cell 19)
      have c4 : w'.cell? ⟨B3, 20, none⟩ = some (.int .u16 (x2 4)) := hE.cellv (hb3.out.cell 20)
      have c5 : w'.cell? ⟨B3, 21, none⟩ = some (.int .u16 (x2 5)) := hE.cellv (hb3.out.cell 21)
      have c6 : w'.cell? ⟨B3, 22, none⟩ = some (.int .u16 (x2 6)) := hE.cellv (hb3.out.cell 22)
      have c7 : w'.cell? ⟨B3, 23, none⟩ = some (.int .u16 (x2 7)) := hE.cellv (hb3.out.cell 23)
      exact RegF.opStep_val rfl (by simp [execOp, e26, c0, c1, c2, c3, c4, c5, c6, c7, go_sem]) rfl
    case s10 =>
      intro w' ev hE hk ha hc hf
      have e27 : ev (.tmp 27) = .agg #[.int .u16 (x2 0), .int .u16 (x2 1), .int .u16 (x2 2), .int .u16 (x2 3), .int .u16 (x2 4), .int .u16 (x2 5), .int .u16 (x2 6), .int .u16 (x2 7)] := hk.1 _ rfl
      refine RegF.opStep_call rfl (by simp [execOp, resolve, invoke, hf, e27, go_sem]) (mono_any x2 _ hx2.out) ?_
      rintro e w1 ⟨rfl, hE1⟩
      exact ⟨_, rfl, hE1, rfl⟩
    case s11 =>
      intro w' ev hE hk ha hc hf
      exact RegF.opStep_new (ob := .cells #[.int .i64 0, .int .i64 0, .int .i64 0, .int .i64 0, .int .i64 0, .int .i64 0, .int .i64 0, .int .i64 0] 35) (by simp [execOp, go_sem]) ⟨_, rfl, hE.size, Blk.new _ _ _⟩
    case s12 =>
      intro w' ev hE hk ha hc hf
      exact RegF.opStep_new (ob := .cells #[.int .i64 0, .int .i64 0, .int .i64 0, .int .i64 0, .int .i64 0, .int .i64 0, .int .i64 0, .int .i64 0] 35) (by simp [execOp, go_sem]) ⟨_, rfl, hE.size, Blk.new _ _ _⟩
    case s13 =>
      intro w' ev hE hk ha hc hf
      exact RegF.opStep_new (ob := .cells #[.int .i64 0, .int .i64 0, .int .i64 0, .int .i64 0, .int .i64 0, .int .i64 0, .int .i64 0, .int .i64 0] 35) (by simp [execOp, go_sem]) ⟨_, rfl, hE.size, Blk.new _ _ _⟩
  case fin =>
    intro gf w' hE hF hap
    obtain ⟨B7, e11, s7, b7⟩ := hF 11 _ rfl
    obtain ⟨B8, e12, s8, b8⟩ := hF 12 _ rfl
    obtain ⟨B9, e13, s9, b9⟩ := hF 13 _ rfl
    have hO := hF 1 _ rfl
    have n78 : B7 ≠ B8 := fun h => hap 11 12 _ _ (by decide) (by decide) rfl rfl rfl rfl (by decide) (by rw [e11, e12, h])
    have n79 : B7 ≠ B9 := fun h => hap 11 13 _ _ (by decide) (by decide) rfl rfl rfl rfl (by decide) (by rw [e11, e13, h])
    have n89 : B8 ≠ B9 := fun h => hap 12 13 _ _ (by decide) (by decide) rfl rfl rfl rfl (by decide) (by rw [e12, e13, h])
    obtain ⟨A1, c1, hoe, ho2, ho3, ho4⟩ := hO.open_
    simp only [List.length_cons, List.length_nil, Nat.reduceAdd, List.drop_succ_cons, List.drop_zero, List.take_succ_cons, List.take_zero, putG, Act.put, List.setIfInBounds_toArray, List.set_cons_succ, List.set_cons_zero, e11, e12, e13, hoe, hF 4 _ rfl, hF 7 _ rfl, hF 10 _ rfl]
    have r7 := hide (run_store_mono b7 (monoOf x0))
    have b7' := putM_blk b7 (monoOf x0)
    have b8' := putM_far b8 n78.symm (monoOf x0)
    have b9' := putM_far b9 n79.symm (monoOf x0)
    have r8 := hide (run_store_mono b8' (monoOf x1))
    have b7'' := putM_far b7' n78 (monoOf x1)
    have b8'' := putM_blk b8' (monoOf x1)
    have b9'' := putM_far b9' n89.symm (monoOf x1)
    have r9 := hide (run_store_mono b9'' (monoOf x2))
    have hb7 := hide (putM_far b7'' n79 (monoOf x2))
    have hb8 := hide (putM_far b8'' n89 (monoOf x2))
    have hb9 := hide (putM_blk b9'' (monoOf x2))
    have hEw : Hid (Ext w (putM (putM (putM w' B7 (monoOf x0)) B8 (monoOf x1)) B9 (monoOf x2))) := putM_ext (putM_ext (putM_ext (hEq.out.trans ((Ext.refl _).drew.trans hE)) (by omega) _) (by omega) _) (by omega) _
    have hOw : Hid (RowsAt .i64 34 (putM (putM (putM w' B7 (monoOf x0)) B8 (monoOf x1)) B9 (monoOf x2)) (.slice A1 (madeRows X).length c1) (madeRows X)) := by rw [hoe] at hO; exact ((hO.putM b7 _).putM b8' _).putM b9'' _
    clear hF hap e11 e12 e13 hO b7 b8 b9 b7' b8' b9' b7'' b8'' b9'' hE hb2 hb3 hoe ho2 ho3 ho4
    go_upto_region 5 with (refine wpList_store_go rfl rfl rfl r7.out rfl rfl ?_; refine wpList_store_go rfl rfl rfl r8.out rfl rfl ?_; refine wpList_store_go rfl rfl rfl r9.out rfl rfl ?_)
    clear r7 r8 r9
    generalize (putM (putM (putM w' B7 (monoOf x0)) B8 (monoOf x1)) B9 (monoOf x2)) = w1 at *
    have hV : Hid (OValid (madeRows X)) := made_valid hX.out
    have ha := hide (monoOf_in hx0.out)
    have hb := hide (monoOf_in hx1.out)
    have hc := hide (monoOf_in hx2.out)
    replace hOw := hide hOw.out
    clear hsq hv hX hx0 hx1 hx2 s7 s8 s9 n78 n79 n89 hEq hB2 hB3
    generalize madeRows X = R at *
    generalize monoOf x0 = a at *
    generalize monoOf x1 = b at *
    generalize monoOf x2 = c at *
    have hR := hide hV.out.in8
    have ha6 : Hid (In8 a (-1000000) 1000000) := ha.out.mono (by omega) (by omega)
    have hb6 : Hid (In8 b (-1000000) 1000000) := hb.out.mono (by omega) (by omega)
    have hc6 : Hid (In8 c (-1000000) 1000000) := hc.out.mono (by omega) (by omega)
    have hd6 : Hid (In8 (add8 a c) (-1000000) 1000000) := fun i hi => by have := ha.out i hi; have := hc.out i hi; simp only [add8]; omega
    have hf6 : Hid (In8 (add8 b c) (-1000000) 1000000) := fun i hi => by have := hb.out i hi; have := hc.out i hi; simp only [add8]; omega
    have h06 : Hid (In8 (fun _ => 0) (-1000000) 1000000) := fun i hi => by simp
    have ma := hide (mMul_true a c · (ha.out.mono (by omega) (by omega)) (hc.out.mono (by omega) (by omega)) fun i hi => by have := ha.out i hi; have := hc.out i hi; simp only [add8]; omega)
    have mb := hide (mMul_true b c · (hb.out.mono (by omega) (by omega)) (hc.out.mono (by omega) (by omega)) fun i hi => by have := hb.out i hi; have := hc.out i hi; simp only [add8]; omega)
    have hz := hide (oCmp_one hV.out fun i hi => (ha.out i hi).1)
    have hs := hide (oCmp_mul hV.out (a := a) fun i hi => (hc.out i hi).1)
    have hdf := hide (oCmp_add R a b c)
    have hab := hide (oCmp_neg R a b)
    have hac := hide (@oCmp_trans R a b c)
    clear ha hb hc
    rcases oCmp_val R a b with hn | hn | hn
    · have heq : ∀ W, _ := fun W => run_eq_mono a b W
      rw [show eqB a b = false from Bool.eq_false_iff.2 fun h => by have := oCmp_zero (R := R).2 (eqB_true.1 h); omega] at heq
      have hn2 : Hid (oCmp R b a = 1) := by rw [hab.out, hn]; rfl
      have hn3 : Hid (oCmp R (add8 a c) (add8 b c) = -1) := hdf.out.trans hn
      replace hn := hide hn
      replace heq := hide heq
      clear hab hdf
      have q0 : (w1).cell? ⟨B7, 0, none⟩ = some (.int .i64 (a 0)) := hb7.out.cell 0
      have q1 : (w1).cell? ⟨B7, 1, none⟩ = some (.int .i64 (a 1)) := hb7.out.cell 1
      have q2 : (w1).cell? ⟨B7, 2, none⟩ = some (.int .i64 (a 2)) := hb7.out.cell 2
      have q3 : (w1).cell? ⟨B7, 3, none⟩ = some (.int .i64 (a 3)) := hb7.out.cell 3
      have q4 : (w1).cell? ⟨B7, 4, none⟩ = some (.int .i64 (a 4)) := hb7.out.cell 4
      have q5 : (w1).cell? ⟨B7, 5, none⟩ = some (.int .i64 (a 5)) := hb7.out.cell 5
      have q6 : (w1).cell? ⟨B7, 6, none⟩ = some (.int .i64 (a 6)) := hb7.out.cell 6
      have q7 : (w1).cell? ⟨B7, 7, none⟩ = some (.int .i64 (a 7)) := hb7.out.cell 7
      have r0 : (w1).cell? ⟨B8, 0, none⟩ = some (.int .i64 (b 0)) := hb8.out.cell 0
      have r1 : (w1).cell? ⟨B8, 1, none⟩ = some (.int .i64 (b 1)) := hb8.out.cell 1
      have r2 : (w1).cell? ⟨B8, 2, none⟩ = some (.int .i64 (b 2)) := hb8.out.cell 2
      have r3 : (w1).cell? ⟨B8, 3, none⟩ = some (.int .i64 (b 3)) := hb8.out.cell 3
      have r4 : (w1).cell? ⟨B8, 4, none⟩ = some (.int .i64 (b 4)) := hb8.out.cell 4
      have r5 : (w1).cell? ⟨B8, 5, none⟩ = some (.int .i64 (b 5)) := hb8.out.cell 5
      have r6 : (w1).cell? ⟨B8, 6, none⟩ = some (.int .i64 (b 6)) := hb8.out.cell 6
      have r7 : (w1).cell? ⟨B8, 7, none⟩ = some (.int .i64 (b 7)) := hb8.out.cell 7
      go_wp2_with fail
      refine (oCmp_any _ R a b _ hOw.out hR.out ha6.out hb6.out).mono ?_
      rintro e w2 ⟨rfl, hE⟩
      rw [hn.out]
      replace hb7 := hide (hb7.out.ext hE)
      replace hb8 := hide (hb8.out.ext hE)
      replace hb9 := hide (hb9.out.ext hE)
      replace hOw := hide (hOw.out.ext hE)
      replace hEw := hide (hEw.out.trans hE)
      clear hE
      clear q0 q1 q2 q3 q4 q5 q6 q7 r0 r1 r2 r3 r4 r5 r6 r7
      go_wp2_with fail
      refine (oValid_any _ R _ hOw.out).mono ?_
      rintro e w3 ⟨rfl, hE⟩
      rw [ovB_true hV.out]
      replace hb7 := hide (hb7.out.ext hE)
      replace hb8 := hide (hb8.out.ext hE)
      replace hb9 := hide (hb9.out.ext hE)
      replace hOw := hide (hOw.out.ext hE)
      replace hEw := hide (hEw.out.trans hE)
      clear hE
      have q0 : (w3).cell? ⟨B7, 0, none⟩ = some (.int .i64 (a 0)) := hb7.out.cell 0
      have q1 : (w3).cell? ⟨B7, 1, none⟩ = some (.int .i64 (a 1)) := hb7.out.cell 1
      have q2 : (w3).cell? ⟨B7, 2, none⟩ = some (.int .i64 (a 2)) := hb7.out.cell 2
      have q3 : (w3).cell? ⟨B7, 3, none⟩ = some (.int .i64 (a 3)) := hb7.out.cell 3
      have q4 : (w3).cell? ⟨B7, 4, none⟩ = some (.int .i64 (a 4)) := hb7.out.cell 4
      have q5 : (w3).cell? ⟨B7, 5, none⟩ = some (.int .i64 (a 5)) := hb7.out.cell 5
      have q6 : (w3).cell? ⟨B7, 6, none⟩ = some (.int .i64 (a 6)) := hb7.out.cell 6
      have q7 : (w3).cell? ⟨B7, 7, none⟩ = some (.int .i64 (a 7)) := hb7.out.cell 7
      have r0 : (w3).cell? ⟨B8, 0, none⟩ = some (.int .i64 (b 0)) := hb8.out.cell 0
      have r1 : (w3).cell? ⟨B8, 1, none⟩ = some (.int .i64 (b 1)) := hb8.out.cell 1
      have r2 : (w3).cell? ⟨B8, 2, none⟩ = some (.int .i64 (b 2)) := hb8.out.cell 2
      have r3 : (w3).cell? ⟨B8, 3, none⟩ = some (.int .i64 (b 3)) := hb8.out.cell 3
      have r4 : (w3).cell? ⟨B8, 4, none⟩ = some (.int .i64 (b 4)) := hb8.out.cell 4
      have r5 : (w3).cell? ⟨B8, 5, none⟩ = some (.int .i64 (b 5)) := hb8.out.cell 5
      have r6 : (w3).cell? ⟨B8, 6, none⟩ = some (.int .i64 (b 6)) := hb8.out.cell 6
      have r7 : (w3).cell? ⟨B8, 7, none⟩ = some (.int .i64 (b 7)) := hb8.out.cell 7
      go_wp2_with fail
      refine (oCmp_any _ R b a _ hOw.out hR.out hb6.out ha6.out).mono ?_
      rintro e w4 ⟨rfl, hE⟩
      rw [hn2.out]
      replace hb7 := hide (hb7.out.ext hE)
      replace hb8 := hide (hb8.out.ext hE)
      replace hb9 := hide (hb9.out.ext hE)
      replace hOw := hide (hOw.out.ext hE)
      replace hEw := hide (hEw.out.trans hE)
      clear hE
      clear q0 q1 q2 q3 q4 q5 q6 q7 r0 r1 r2 r3 r4 r5 r6 r7
      have q0 : (w4).cell? ⟨B7, 0, none⟩ = some (.int .i64 (a 0)) := hb7.out.cell 0
      have q1 : (w4).cell? ⟨B7, 1, none⟩ = some (.int .i64 (a 1)) := hb7.out.cell 1
      have q2 : (w4).cell? ⟨B7, 2, none⟩ = some (.int .i64 (a 2)) := hb7.out.cell 2
      have q3 : (w4).cell? ⟨B7, 3, none⟩ = some (.int .i64 (a 3)) := hb7.out.cell 3
      have q4 : (w4).cell? ⟨B7, 4, none⟩ = some (.int .i64 (a 4)) := hb7.out.cell 4
      have q5 : (w4).cell? ⟨B7, 5, none⟩ = some (.int .i64 (a 5)) := hb7.out.cell 5
      have q6 : (w4).cell? ⟨B7, 6, none⟩ = some (.int .i64 (a 6)) := hb7.out.cell 6
      have q7 : (w4).cell? ⟨B7, 7, none⟩ = some (.int .i64 (a 7)) := hb7.out.cell 7
      have r0 : (w4).cell? ⟨B8, 0, none⟩ = some (.int .i64 (b 0)) := hb8.out.cell 0
      have r1 : (w4).cell? ⟨B8, 1, none⟩ = some (.int .i64 (b 1)) := hb8.out.cell 1
      have r2 : (w4).cell? ⟨B8, 2, none⟩ = some (.int .i64 (b 2)) := hb8.out.cell 2
      have r3 : (w4).cell? ⟨B8, 3, none⟩ = some (.int .i64 (b 3)) := hb8.out.cell 3
      have r4 : (w4).cell? ⟨B8, 4, none⟩ = some (.int .i64 (b 4)) := hb8.out.cell 4
      have r5 : (w4).cell? ⟨B8, 5, none⟩ = some (.int .i64 (b 5)) := hb8.out.cell 5
      have r6 : (w4).cell? ⟨B8, 6, none⟩ = some (.int .i64 (b 6)) := hb8.out.cell 6
      have r7 : (w4).cell? ⟨B8, 7, none⟩ = some (.int .i64 (b 7)) := hb8.out.cell 7
      have heq' := heq.out
      go_wp2_with fail
      refine (oCmp_any _ R a (fun _ => 0) _ hOw.out hR.out ha6.out h06.out).mono ?_
      rintro e w5 ⟨rfl, hE⟩
      replace hb7 := hide (hb7.out.ext hE)
      replace hb8 := hide (hb8.out.ext hE)
      replace hb9 := hide (hb9.out.ext hE)
      replace hOw := hide (hOw.out.ext hE)
      replace hEw := hide (hEw.out.trans hE)
      clear hE
      clear q0 q1 q2 q3 q4 q5 q6 q7 r0 r1 r2 r3 r4 r5 r6 r7
      clear heq' heq
      have z1 : ¬ oCmp R a (fun _ => 0) < 0 := by have := hz.out; omega
      generalize oCmp R a (fun _ => 0) = z at *
      have q0 : (w5).cell? ⟨B7, 0, none⟩ = some (.int .i64 (a 0)) := hb7.out.cell 0
      have q1 : (w5).cell? ⟨B7, 1, none⟩ = some (.int .i64 (a 1)) := hb7.out.cell 1
      have q2 : (w5).cell? ⟨B7, 2, none⟩ = some (.int .i64 (a 2)) := hb7.out.cell 2
      have q3 : (w5).cell? ⟨B7, 3, none⟩ = some (.int .i64 (a 3)) := hb7.out.cell 3
      have q4 : (w5).cell? ⟨B7, 4, none⟩ = some (.int .i64 (a 4)) := hb7.out.cell 4
      have q5 : (w5).cell? ⟨B7, 5, none⟩ = some (.int .i64 (a 5)) := hb7.out.cell 5
      have q6 : (w5).cell? ⟨B7, 6, none⟩ = some (.int .i64 (a 6)) := hb7.out.cell 6
      have q7 : (w5).cell? ⟨B7, 7, none⟩ = some (.int .i64 (a 7)) := hb7.out.cell 7
      have s0 : (w5).cell? ⟨B9, 0, none⟩ = some (.int .i64 (c 0)) := hb9.out.cell 0
      have s1 : (w5).cell? ⟨B9, 1, none⟩ = some (.int .i64 (c 1)) := hb9.out.cell 1
      have s2 : (w5).cell? ⟨B9, 2, none⟩ = some (.int .i64 (c 2)) := hb9.out.cell 2
      have s3 : (w5).cell? ⟨B9, 3, none⟩ = some (.int .i64 (c 3)) := hb9.out.cell 3
      have s4 : (w5).cell? ⟨B9, 4, none⟩ = some (.int .i64 (c 4)) := hb9.out.cell 4
      have s5 : (w5).cell? ⟨B9, 5, none⟩ = some (.int .i64 (c 5)) := hb9.out.cell 5
      have s6 : (w5).cell? ⟨B9, 6, none⟩ = some (.int .i64 (c 6)) := hb9.out.cell 6
      have s7 : (w5).cell? ⟨B9, 7, none⟩ = some (.int .i64 (c 7)) := hb9.out.cell 7
      go_wp2_with fail
      refine (ma.out _).mono ?_
      rintro e w6 ⟨rfl, hE⟩
      replace hb7 := hide (hb7.out.ext hE)
      replace hb8 := hide (hb8.out.ext hE)
      replace hb9 := hide (hb9.out.ext hE)
      replace hOw := hide (hOw.out.ext hE)
      replace hEw := hide (hEw.out.trans hE)
      clear hE
      clear q0 q1 q2 q3 q4 q5 q6 q7 s0 s1 s2 s3 s4 s5 s6 s7
      have hb11 : Hid (Blk (w6.alloc (.cells #[.int .i64 (add8 a c 0), .int .i64 (add8 a c 1), .int .i64 (add8 a c 2), .int .i64 (add8 a c 3), .int .i64 (add8 a c 4), .int .i64 (add8 a c 5), .int .i64 (add8 a c 6), .int .i64 (add8 a c 7)] 35)) w6.heap.size 35 (c8 (add8 a c))) := Blk.new _ _ _
      have hE : Ext w6 (w6.alloc (.cells #[.int .i64 (add8 a c 0), .int .i64 (add8 a c 1), .int .i64 (add8 a c 2), .int .i64 (add8 a c 3), .int .i64 (add8 a c 4), .int .i64 (add8 a c 5), .int .i64 (add8 a c 6), .int .i64 (add8 a c 7)] 35)) := (Ext.refl w6).alloc _
      replace hb7 := hide (hb7.out.ext hE)
      replace hb8 := hide (hb8.out.ext hE)
      replace hb9 := hide (hb9.out.ext hE)
      replace hOw := hide (hOw.out.ext hE)
      replace hEw := hide (hEw.out.trans hE)
      clear hE
      go_upto_region 9 with (fail)
      generalize (w6.alloc (.cells #[.int .i64 (add8 a c 0), .int .i64 (add8 a c 1), .int .i64 (add8 a c 2), .int .i64 (add8 a c 3), .int .i64 (add8 a c 4), .int .i64 (add8 a c 5), .int .i64 (add8 a c 6), .int .i64 (add8 a c 7)] 35)) = w7 at *
      generalize w6.heap.size = B11 at *
      have r0 : (w7).cell? ⟨B8, 0, none⟩ = some (.int .i64 (b 0)) := hb8.out.cell 0
      have r1 : (w7).cell? ⟨B8, 1, none⟩ = some (.int .i64 (b 1)) := hb8.out.cell 1
      have r2 : (w7).cell? ⟨B8, 2, none⟩ = some (.int .i64 (b 2)) := hb8.out.cell 2
      have r3 : (w7).cell? ⟨B8, 3, none⟩ = some (.int .i64 (b 3)) := hb8.out.cell 3
      have r4 : (w7).cell? ⟨B8, 4, none⟩ = some (.int .i64 (b 4)) := hb8.out.cell 4
      have r5 : (w7).cell? ⟨B8, 5, none⟩ = some (.int .i64 (b 5)) := hb8.out.cell 5
      have r6 : (w7).cell? ⟨B8, 6, none⟩ = some (.int .i64 (b 6)) := hb8.out.cell 6
      have r7 : (w7).cell? ⟨B8, 7, none⟩ = some (.int .i64 (b 7)) := hb8.out.cell 7
      have s0 : (w7).cell? ⟨B9, 0, none⟩ = some (.int .i64 (c 0)) := hb9.out.cell 0
      have s1 : (w7).cell? ⟨B9, 1, none⟩ = some (.int .i64 (c 1)) := hb9.out.cell 1
      have s2 : (w7).cell? ⟨B9, 2, none⟩ = some (.int .i64 (c 2)) := hb9.out.cell 2
      have s3 : (w7).cell? ⟨B9, 3, none⟩ = some (.int .i64 (c 3)) := hb9.out.cell 3
      have s4 : (w7).cell? ⟨B9, 4, none⟩ = some (.int .i64 (c 4)) := hb9.out.cell 4
      have s5 : (w7).cell? ⟨B9, 5, none⟩ = some (.int .i64 (c 5)) := hb9.out.cell 5
      have s6 : (w7).cell? ⟨B9, 6, none⟩ = some (.int .i64 (c 6)) := hb9.out.cell 6
      have s7 : (w7).cell? ⟨B9, 7, none⟩ = some (.int .i64 (c 7)) := hb9.out.cell 7
      go_wp2_with fail
      refine (mb.out _).mono ?_
      rintro e w8 ⟨rfl, hE⟩
      replace hb7 := hide (hb7.out.ext hE)
      replace hb8 := hide (hb8.out.ext hE)
      replace hb9 := hide (hb9.out.ext hE)
      replace hb11 := hide (hb11.out.ext hE)
      replace hOw := hide (hOw.out.ext hE)
      replace hEw := hide (hEw.out.trans hE)
      clear hE
      clear r0 r1 r2 r3 r4 r5 r6 r7 s0 s1 s2 s3 s4 s5 s6 s7
      have hb13 : Hid (Blk (w8.alloc (.cells #[.int .i64 (add8 b c 0), .int .i64 (add8 b c 1), .int .i64 (add8 b c 2), .int .i64 (add8 b c 3), .int .i64 (add8 b c 4), .int .i64 (add8 b c 5), .int .i64 (add8 b c 6), .int .i64 (add8 b c 7)] 35)) w8.heap.size 35 (c8 (add8 b c))) := Blk.new _ _ _
      have hE : Ext w8 (w8.alloc (.cells #[.int .i64 (add8 b c 0), .int .i64 (add8 b c 1), .int .i64 (add8 b c 2), .int .i64 (add8 b c 3), .int .i64 (add8 b c 4), .int .i64 (add8 b c 5), .int .i64 (add8 b c 6), .int .i64 (add8 b c 7)] 35)) := (Ext.refl w8).alloc _
      replace hb7 := hide (hb7.out.ext hE)
      replace hb8 := hide (hb8.out.ext hE)
      replace hb9 := hide (hb9.out.ext hE)
      replace hb11 := hide (hb11.out.ext hE)
      replace hOw := hide (hOw.out.ext hE)
      replace hEw := hide (hEw.out.trans hE)
      clear hE
      go_upto_region 10 with (fail)
      generalize (w8.alloc (.cells #[.int .i64 (add8 b c 0), .int .i64 (add8 b c 1), .int .i64 (add8 b c 2), .int .i64 (add8 b c 3), .int .i64 (add8 b c 4), .int .i64 (add8 b c 5), .int .i64 (add8 b c 6), .int .i64 (add8 b c 7)] 35)) = w9 at *
      generalize w8.heap.size = B13 at *
      have t0 : (w9).cell? ⟨B11, 0, none⟩ = some (.int .i64 ((add8 a c) 0)) := hb11.out.cell 0
      have t1 : (w9).cell? ⟨B11, 1, none⟩ = some (.int .i64 ((add8 a c) 1)) := hb11.out.cell 1
      have t2 : (w9).cell? ⟨B11, 2, none⟩ = some (.int .i64 ((add8 a c) 2)) := hb11.out.cell 2
      have t3 : (w9).cell? ⟨B11, 3, none⟩ = some (.int .i64 ((add8 a c) 3)) := hb11.out.cell 3
      have t4 : (w9).cell? ⟨B11, 4, none⟩ = some (.int .i64 ((add8 a c) 4)) := hb11.out.cell 4
      have t5 : (w9).cell? ⟨B11, 5, none⟩ = some (.int .i64 ((add8 a c) 5)) := hb11.out.cell 5
      have t6 : (w9).cell? ⟨B11, 6, none⟩ = some (.int .i64 ((add8 a c) 6)) := hb11.out.cell 6
      have t7 : (w9).cell? ⟨B11, 7, none⟩ = some (.int .i64 ((add8 a c) 7)) := hb11.out.cell 7
      have u0 : (w9).cell? ⟨B13, 0, none⟩ = some (.int .i64 ((add8 b c) 0)) := hb13.out.cell 0
      have u1 : (w9).cell? ⟨B13, 1, none⟩ = some (.int .i64 ((add8 b c) 1)) := hb13.out.cell 1
      have u2 : (w9).cell? ⟨B13, 2, none⟩ = some (.int .i64 ((add8 b c) 2)) := hb13.out.cell 2
      have u3 : (w9).cell? ⟨B13, 3, none⟩ = some (.int .i64 ((add8 b c) 3)) := hb13.out.cell 3
      have u4 : (w9).cell? ⟨B13, 4, none⟩ = some (.int .i64 ((add8 b c) 4)) := hb13.out.cell 4
      have u5 : (w9).cell? ⟨B13, 5, none⟩ = some (.int .i64 ((add8 b c) 5)) := hb13.out.cell 5
      have u6 : (w9).cell? ⟨B13, 6, none⟩ = some (.int .i64 ((add8 b c) 6)) := hb13.out.cell 6
      have u7 : (w9).cell? ⟨B13, 7, none⟩ = some (.int .i64 ((add8 b c) 7)) := hb13.out.cell 7
      go_wp2_with fail
      refine (oCmp_any _ R (add8 a c) (add8 b c) _ hOw.out hR.out hd6.out hf6.out).mono ?_
      rintro e w10 ⟨rfl, hE⟩
      rw [hn3.out]
      replace hb7 := hide (hb7.out.ext hE)
      replace hb8 := hide (hb8.out.ext hE)
      replace hb9 := hide (hb9.out.ext hE)
      replace hb11 := hide (hb11.out.ext hE)
      replace hb13 := hide (hb13.out.ext hE)
      replace hOw := hide (hOw.out.ext hE)
      replace hEw := hide (hEw.out.trans hE)
      clear hE
      clear t0 t1 t2 t3 t4 t5 t6 t7 u0 u1 u2 u3 u4 u5 u6 u7
      have q0 : (w10).cell? ⟨B7, 0, none⟩ = some (.int .i64 (a 0)) := hb7.out.cell 0
      have q1 : (w10).cell? ⟨B7, 1, none⟩ = some (.int .i64 (a 1)) := hb7.out.cell 1
      have q2 : (w10).cell? ⟨B7, 2, none⟩ = some (.int .i64 (a 2)) := hb7.out.cell 2
      have q3 : (w10).cell? ⟨B7, 3, none⟩ = some (.int .i64 (a 3)) := hb7.out.cell 3
      have q4 : (w10).cell? ⟨B7, 4, none⟩ = some (.int .i64 (a 4)) := hb7.out.cell 4
      have q5 : (w10).cell? ⟨B7, 5, none⟩ = some (.int .i64 (a 5)) := hb7.out.cell 5
      have q6 : (w10).cell? ⟨B7, 6, none⟩ = some (.int .i64 (a 6)) := hb7.out.cell 6
      have q7 : (w10).cell? ⟨B7, 7, none⟩ = some (.int .i64 (a 7)) := hb7.out.cell 7
      have t0 : (w10).cell? ⟨B11, 0, none⟩ = some (.int .i64 ((add8 a c) 0)) := hb11.out.cell 0
      have t1 : (w10).cell? ⟨B11, 1, none⟩ = some (.int .i64 ((add8 a c) 1)) := hb11.out.cell 1
      have t2 : (w10).cell? ⟨B11, 2, none⟩ = some (.int .i64 ((add8 a c) 2)) := hb11.out.cell 2
      have t3 : (w10).cell? ⟨B11, 3, none⟩ = some (.int .i64 ((add8 a c) 3)) := hb11.out.cell 3
      have t4 : (w10).cell? ⟨B11, 4, none⟩ = some (.int .i64 ((add8 a c) 4)) := hb11.out.cell 4
      have t5 : (w10).cell? ⟨B11, 5, none⟩ = some (.int .i64 ((add8 a c) 5)) := hb11.out.cell 5
      have t6 : (w10).cell? ⟨B11, 6, none⟩ = some (.int .i64 ((add8 a c) 6)) := hb11.out.cell 6
      have t7 : (w10).cell? ⟨B11, 7, none⟩ = some (.int .i64 ((add8 a c) 7)) := hb11.out.cell 7
      go_wp2_with fail
      refine (oCmp_any _ R (add8 a c) a _ hOw.out hR.out hd6.out ha6.out).mono ?_
      rintro e wz ⟨rfl, hE⟩
      replace hb7 := hide (hb7.out.ext hE)
      replace hb8 := hide (hb8.out.ext hE)
      replace hb9 := hide (hb9.out.ext hE)
      replace hb11 := hide (hb11.out.ext hE)
      replace hb13 := hide (hb13.out.ext hE)
      replace hOw := hide (hOw.out.ext hE)
      replace hEw := hide (hEw.out.trans hE)
      clear hE
      clear q0 q1 q2 q3 q4 q5 q6 q7 t0 t1 t2 t3 t4 t5 t6 t7
      have s1 : oCmp R (add8 a c) a ≥ 0 := hs.out
      generalize oCmp R (add8 a c) a = s at *
      go_wp2
      go_ret
      exact ⟨rfl, hEw.out⟩
    · have heq : ∀ W, _ := fun W => run_eq_mono a b W
      rw [eqB_true.2 (oCmp_zero.1 hn)] at heq
      have hn2 : Hid (oCmp R b a = 0) := by rw [hab.out, hn]; rfl
      have hn3 : Hid (oCmp R (add8 a c) (add8 b c) = 0) := hdf.out.trans hn
      replace hn := hide hn
      replace heq := hide heq
      clear hab hdf
      have q0 : (w1).cell? ⟨B7, 0, none⟩ = some (.int .i64 (a 0)) := hb7.out.cell 0
      have q1 : (w1).cell? ⟨B7, 1, none⟩ = some (.int .i64 (a 1)) := hb7.out.cell 1
      have q2 : (w1).cell? ⟨B7, 2, none⟩ = some (.int .i64 (a 2)) := hb7.out.cell 2
      have q3 : (w1).cell? ⟨B7, 3, none⟩ = some (.int .i64 (a 3)) := hb7.out.cell 3
      have q4 : (w1).cell? ⟨B7, 4, none⟩ = some (.int .i64 (a 4)) := hb7.out.cell 4
      have q5 : (w1).cell? ⟨B7, 5, none⟩ = some (.int .i64 (a 5)) := hb7.out.cell 5
      have q6 : (w1).cell? ⟨B7, 6, none⟩ = some (.int .i64 (a 6)) := hb7.out.cell 6
      have q7 : (w1).cell? ⟨B7, 7, none⟩ = some (.int .i64 (a 7)) := hb7.out.cell 7
      have r0 : (w1).cell? ⟨B8, 0, none⟩ = some (.int .i64 (b 0)) := hb8.out.cell 0
      have r1 : (w1).cell? ⟨B8, 1, none⟩ = some (.int .i64 (b 1)) := hb8.out.cell 1
      have r2 : (w1).cell? ⟨B8, 2, none⟩ = some (.int .i64 (b 2)) := hb8.out.cell 2
      have r3 : (w1).cell? ⟨B8, 3, none⟩ = some (.int .i64 (b 3)) := hb8.out.cell 3
      have r4 : (w1).cell? ⟨B8, 4, none⟩ = some (.int .i64 (b 4)) := hb8.out.cell 4
      have r5 : (w1).cell? ⟨B8, 5, none⟩ = some (.int .i64 (b 5)) := hb8.out.cell 5
      have r6 : (w1).cell? ⟨B8, 6, none⟩ = some (.int .i64 (b 6)) := hb8.out.cell 6
      have r7 : (w1).cell? ⟨B8, 7, none⟩ = some (.int .i64 (b 7)) := hb8.out.cell 7
      go_wp2_with fail
      refine (oCmp_any _ R a b _ hOw.out hR.out ha6.out hb6.out).mono ?_
      rintro e w2 ⟨rfl, hE⟩
      rw [hn.out]
      replace hb7 := hide (hb7.out.ext hE)
      replace hb8 := hide (hb8.out.ext hE)
      replace hb9 := hide (hb9.out.ext hE)
      replace hOw := hide (hOw.out.ext hE)
      replace hEw := hide (hEw.out.trans hE)
      clear hE
      clear q0 q1 q2 q3 q4 q5 q6 q7 r0 r1 r2 r3 r4 r5 r6 r7
      go_wp2_with fail
      refine (oValid_any _ R _ hOw.out).mono ?_
      rintro e w3 ⟨rfl, hE⟩
      rw [ovB_true hV.out]
      replace hb7 := hide (hb7.out.ext hE)
      replace hb8 := hide (hb8.out.ext hE)
      replace hb9 := hide (hb9.out.ext hE)
      replace hOw := hide (hOw.out.ext hE)
      replace hEw := hide (hEw.out.trans hE)
      clear hE
      have q0 : (w3).cell? ⟨B7, 0, none⟩ = some (.int .i64 (a 0)) := hb7.out.cell 0
      have q1 : (w3).cell? ⟨B7, 1, none⟩ = some (.int .i64 (a 1)) := hb7.out.cell 1
      have q2 : (w3).cell? ⟨B7, 2, none⟩ = some (.int .i64 (a 2)) := hb7.out.cell 2
      have q3 : (w3).cell? ⟨B7, 3, none⟩ = some (.int .i64 (a 3)) := hb7.out.cell 3
      have q4 : (w3).cell? ⟨B7, 4, none⟩ = some (.int .i64 (a 4)) := hb7.out.cell 4
      have q5 : (w3).cell? ⟨B7, 5, none⟩ = some (.int .i64 (a 5)) := hb7.out.cell 5
      have q6 : (w3).cell? ⟨B7, 6, none⟩ = some (.int .i64 (a 6)) := hb7.out.cell 6
      have q7 : (w3).cell? ⟨B7, 7, none⟩ = some (.int .i64 (a 7)) := hb7.out.cell 7
      have r0 : (w3).cell? ⟨B8, 0, none⟩ = some (.int .i64 (b 0)) := hb8.out.cell 0
      have r1 : (w3).cell? ⟨B8, 1, none⟩ = some (.int .i64 (b 1)) := hb8.out.cell 1
      have r2 : (w3).cell? ⟨B8, 2, none⟩ = some (.int .i64 (b 2)) := hb8.out.cell 2
      have r3 : (w3).cell? ⟨B8, 3, none⟩ = some (.int .i64 (b 3)) := hb8.out.cell 3
      have r4 : (w3).cell? ⟨B8, 4, none⟩ = some (.int .i64 (b 4)) := hb8.out.cell 4
      have r5 : (w3).cell? ⟨B8, 5, none⟩ = some (.int .i64 (b 5)) := hb8.out.cell 5
      have r6 : (w3).cell? ⟨B8, 6, none⟩ = some (.int .i64 (b 6)) := hb8.out.cell 6
      have r7 : (w3).cell? ⟨B8, 7, none⟩ = some (.int .i64 (b 7)) := hb8.out.cell 7
      go_wp2_with fail
      refine (oCmp_any _ R b a _ hOw.out hR.out hb6.out ha6.out).mono ?_
      rintro e w4 ⟨rfl, hE⟩
      rw [hn2.out]
      replace hb7 := hide (hb7.out.ext hE)
      replace hb8 := hide (hb8.out.ext hE)
      replace hb9 := hide (hb9.out.ext hE)
      replace hOw := hide (hOw.out.ext hE)
      replace hEw := hide (hEw.out.trans hE)
      clear hE
      clear q0 q1 q2 q3 q4 q5 q6 q7 r0 r1 r2 r3 r4 r5 r6 r7
      have q0 : (w4).cell? ⟨B7, 0, none⟩ = some (.int .i64 (a 0)) := hb7.out.cell 0
      have q1 : (w4).cell? ⟨B7, 1, none⟩ = some (.int .i64 (a 1)) := hb7.out.cell 1
      have q2 : (w4).cell? ⟨B7, 2, none⟩ = some (.int .i64 (a 2)) := hb7.out.cell 2
      have q3 : (w4).cell? ⟨B7, 3, none⟩ = some (.int .i64 (a 3)) := hb7.out.cell 3
      have q4 : (w4).cell? ⟨B7, 4, none⟩ = some (.int .i64 (a 4)) := hb7.out.cell 4
      have q5 : (w4).cell? ⟨B7, 5, none⟩ = some (.int .i64 (a 5)) := hb7.out.cell 5
      have q6 : (w4).cell? ⟨B7, 6, none⟩ = some (.int .i64 (a 6)) := hb7.out.cell 6
      have q7 : (w4).cell? ⟨B7, 7, none⟩ = some (.int .i64 (a 7)) := hb7.out.cell 7
      have r0 : (w4).cell? ⟨B8, 0, none⟩ = some (.int .i64 (b 0)) := hb8.out.cell 0
      have r1 : (w4).cell? ⟨B8, 1, none⟩ = some (.int .i64 (b 1)) := hb8.out.cell 1
      have r2 : (w4).cell? ⟨B8, 2, none⟩ = some (.int .i64 (b 2)) := hb8.out.cell 2
      have r3 : (w4).cell? ⟨B8, 3, none⟩ = some (.int .i64 (b 3)) := hb8.out.cell 3
      have r4 : (w4).cell? ⟨B8, 4, none⟩ = some (.int .i64 (b 4)) := hb8.out.cell 4
      have r5 : (w4).cell? ⟨B8, 5, none⟩ = some (.int .i64 (b 5)) := hb8.out.cell 5
      have r6 : (w4).cell? ⟨B8, 6, none⟩ = some (.int .i64 (b 6)) := hb8.out.cell 6
      have r7 : (w4).cell? ⟨B8, 7, none⟩ = some (.int .i64 (b 7)) := hb8.out.cell 7
      have heq' := heq.out
      go_wp2_with fail
      refine (oCmp_any _ R a (fun _ => 0) _ hOw.out hR.out ha6.out h06.out).mono ?_
      rintro e w5 ⟨rfl, hE⟩
      replace hb7 := hide (hb7.out.ext hE)
      replace hb8 := hide (hb8.out.ext hE)
      replace hb9 := hide (hb9.out.ext hE)
      replace hOw := hide (hOw.out.ext hE)
      replace hEw := hide (hEw.out.trans hE)
      clear hE
      clear q0 q1 q2 q3 q4 q5 q6 q7 r0 r1 r2 r3 r4 r5 r6 r7
      clear heq' heq
      have z1 : ¬ oCmp R a (fun _ => 0) < 0 := by have := hz.out; omega
      generalize oCmp R a (fun _ => 0) = z at *
      have q0 : (w5).cell? ⟨B7, 0, none⟩ = some (.int .i64 (a 0)) := hb7.out.cell 0
      have q1 : (w5).cell? ⟨B7, 1, none⟩ = some (.int .i64 (a 1)) := hb7.out.cell 1
      have q2 : (w5).cell? ⟨B7, 2, none⟩ = some (.int .i64 (a 2)) := hb7.out.cell 2
      have q3 : (w5).cell? ⟨B7, 3, none⟩ = some (.int .i64 (a 3)) := hb7.out.cell 3
      have q4 : (w5).cell? ⟨B7, 4, none⟩ = some (.int .i64 (a 4)) := hb7.out.cell 4
      have q5 : (w5).cell? ⟨B7, 5, none⟩ = some (.int .i64 (a 5)) := hb7.out.cell 5
      have q6 : (w5).cell? ⟨B7, 6, none⟩ = some (.int .i64 (a 6)) := hb7.out.cell 6
      have q7 : (w5).cell? ⟨B7, 7, none⟩ = some (.int .i64 (a 7)) := hb7.out.cell 7
      have s0 : (w5).cell? ⟨B9, 0, none⟩ = some (.int .i64 (c 0)) := hb9.out.cell 0
      have s1 : (w5).cell? ⟨B9, 1, none⟩ = some (.int .i64 (c 1)) := hb9.out.cell 1
      have s2 : (w5).cell? ⟨B9, 2, none⟩ = some (.int .i64 (c 2)) := hb9.out.cell 2
      have s3 : (w5).cell? ⟨B9, 3, none⟩ = some (.int .i64 (c 3)) := hb9.out.cell 3
      have s4 : (w5).cell? ⟨B9, 4, none⟩ = some (.int .i64 (c 4)) := hb9.out.cell 4
      have s5 : (w5).cell? ⟨B9, 5, none⟩ = some (.int .i64 (c 5)) := hb9.out.cell 5
      have s6 : (w5).cell? ⟨B9, 6, none⟩ = some (.int .i64 (c 6)) := hb9.out.cell 6
      have s7 : (w5).cell? ⟨B9, 7, none⟩ = some (.int .i64 (c 7)) := hb9.out.cell 7
      go_wp2_with fail
      refine (ma.out _).mono ?_
      rintro e w6 ⟨rfl, hE⟩
      replace hb7 := hide (hb7.out.ext hE)
      replace hb8 := hide (hb8.out.ext hE)
      replace hb9 := hide (hb9.out.ext hE)
      replace hOw := hide (hOw.out.ext hE)
      replace hEw := hide (hEw.out.trans hE)
      clear hE
      clear q0 q1 q2 q3 q4 q5 q6 q7 s0 s1 s2 s3 s4 s5 s6 s7
      have hb11 : Hid (Blk (w6.alloc (.cells #[.int .i64 (add8 a c 0), .int .i64 (add8 a c 1), .int .i64 (add8 a c 2), .int .i64 (add8 a c 3), .int .i64 (add8 a c 4), .int .i64 (add8 a c 5), .int .i64 (add8 a c 6), .int .i64 (add8 a c 7)] 35)) w6.heap.size 35 (c8 (add8 a c))) := Blk.new _ _ _
      have hE : Ext w6 (w6.alloc (.cells #[.int .i64 (add8 a c 0), .int .i64 (add8 a c 1), .int .i64 (add8 a c 2), .int .i64 (add8 a c 3), .int .i64 (add8 a c 4), .int .i64 (add8 a c 5), .int .i64 (add8 a c 6), .int .i64 (add8 a c 7)] 35)) := (Ext.refl w6).alloc _
      replace hb7 := hide (hb7.out.ext hE)
      replace hb8 := hide (hb8.out.ext hE)
      replace hb9 := hide (hb9.out.ext hE)
      replace hOw := hide (hOw.out.ext hE)
      replace hEw := hide (hEw.out.trans hE)
      clear hE
      go_upto_region 9 with (fail)
      generalize (w6.alloc (.cells #[.int .i64 (add8 a c 0), .int .i64 (add8 a c 1), .int .i64 (add8 a c 2), .int .i64 (add8 a c 3), .int .i64 (add8 a c 4), .int .i64 (add8 a c 5), .int .i64 (add8 a c 6), .int .i64 (add8 a c 7)] 35)) = w7 at *
      generalize w6.heap.size = B11 at *
      have r0 : (w7).cell? ⟨B8, 0, none⟩ = some (.int .i64 (b 0)) := hb8.out.cell 0
      have r1 : (w7).cell? ⟨B8, 1, none⟩ = some (.int .i64 (b 1)) := hb8.out.cell 1
      have r2 : (w7).cell? ⟨B8, 2, none⟩ = some (.int .i64 (b 2)) := hb8.out.cell 2
      have r3 : (w7).cell? ⟨B8, 3, none⟩ = some (.int .i64 (b 3)) := hb8.out.cell 3
      have r4 : (w7).cell? ⟨B8, 4, none⟩ = some (.int .i64 (b 4)) := hb8.out.cell 4
      have r5 : (w7).cell? ⟨B8, 5, none⟩ = some (.int .i64 (b 5)) := hb8.out.cell 5
      have r6 : (w7).cell? ⟨B8, 6, none⟩ = some (.int .i64 (b 6)) := hb8.out.cell 6
      have r7 : (w7).cell? ⟨B8, 7, none⟩ = some (.int .i64 (b 7)) := hb8.out.cell 7
      have s0 : (w7).cell? ⟨B9, 0, none⟩ = some (.int .i64 (c 0)) := hb9.out.cell 0
      have s1 : (w7).cell? ⟨B9, 1, none⟩ = some (.int .i64 (c 1)) := hb9.out.cell 1
      have s2 : (w7).cell? ⟨B9, 2, none⟩ = some (.int .i64 (c 2)) := hb9.out.cell 2
      have s3 : (w7).cell? ⟨B9, 3, none⟩ = some (.int .i64 (c 3)) := hb9.out.cell 3
      have s4 : (w7).cell? ⟨B9, 4, none⟩ = some (.int .i64 (c 4)) := hb9.out.cell 4
      have s5 : (w7).cell? ⟨B9, 5, none⟩ = some (.int .i64 (c 5)) := hb9.out.cell 5
      have s6 : (w7).cell? ⟨B9, 6, none⟩ = some (.int .i64 (c 6)) := hb9.out.cell 6
      have s7 : (w7).cell? ⟨B9, 7, none⟩ = some (.int .i64 (c 7)) := hb9.out.cell 7
      go_wp2_with fail
      refine (mb.out _).mono ?_
      rintro e w8 ⟨rfl, hE⟩
      replace hb7 := hide (hb7.out.ext hE)
      replace hb8 := hide (hb8.out.ext hE)
      replace hb9 := hide (hb9.out.ext hE)
      replace hb11 := hide (hb11.out.ext hE)
      replace hOw := hide (hOw.out.ext hE)
      replace hEw := hide (hEw.out.trans hE)
      clear hE
      clear r0 r1 r2 r3 r4 r5 r6 r7 s0 s1 s2 s3 s4 s5 s6 s7
      have hb13 : Hid (Blk (w8.alloc (.cells #[.int .i64 (add8 b c 0), .int .i64 (add8 b c 1), .int .i64 (add8 b c 2), .int .i64 (add8 b c 3), .int .i64 (add8 b c 4), .int .i64 (add8 b c 5), .int .i64 (add8 b c 6), .int .i64 (add8 b c 7)] 35)) w8.heap.size 35 (c8 (add8 b c))) := Blk.new _ _ _
      have hE : Ext w8 (w8.alloc (.cells #[.int .i64 (add8 b c 0), .int .i64 (add8 b c 1), .int .i64 (add8 b c 2), .int .i64 (add8 b c 3), .int .i64 (add8 b c 4), .int .i64 (add8 b c 5), .int .i64 (add8 b c 6), .int .i64 (add8 b c 7)] 35)) := (Ext.refl w8).alloc _
      replace hb7 := hide (hb7.out.ext hE)
      replace hb8 := hide (hb8.out.ext hE)
      replace hb9 := hide (hb9.out.ext hE)
      replace hb11 := hide (hb11.out.ext hE)
      replace hOw := hide (hOw.out.ext hE)
      replace hEw := hide (hEw.out.trans hE)
      clear hE
      go_upto_region 10 with (fail)
      generalize (w8.alloc (.cells #[.int .i64 (add8 b c 0), .int .i64 (add8 b c 1), .int .i64 (add8 b c 2), .int .i64 (add8 b c 3), .int .i64 (add8 b c 4), .int .i64 (add8 b c 5), .int .i64 (add8 b c 6), .int .i64 (add8 b c 7)] 35)) = w9 at *
      generalize w8.heap.size = B13 at *
      have t0 : (w9).cell? ⟨B11, 0, none⟩ = some (.int .i64 ((add8 a c) 0)) := hb11.out.cell 0
      have t1 : (w9).cell? ⟨B11, 1, none⟩ = some (.int .i64 ((add8 a c) 1)) := hb11.out.cell 1
      have t2 : (w9).cell? ⟨B11, 2, none⟩ = some (.int .i64 ((add8 a c) 2)) := hb11.out.cell 2
      have t3 : (w9).cell? ⟨B11, 3, none⟩ = some (.int .i64 ((add8 a c) 3)) := hb11.out.cell 3
      have t4 : (w9).cell? ⟨B11, 4, none⟩ = some (.int .i64 ((add8 a c) 4)) := hb11.out.cell 4
      have t5 : (w9).cell? ⟨B11, 5, none⟩ = some (.int .i64 ((add8 a c) 5)) := hb11.out.cell 5
      have t6 : (w9).cell? ⟨B11, 6, none⟩ = some (.int .i64 ((add8 a c) 6)) := hb11.out.cell 6
      have t7 : (w9).cell? ⟨B11, 7, none⟩ = some (.int .i64 ((add8 a c) 7)) := hb11.out.cell 7
      have u0 : (w9).cell? ⟨B13, 0, none⟩ = some (.int .i64 ((add8 b c) 0)) := hb13.out.cell 0
      have u1 : (w9).cell? ⟨B13, 1, none⟩ = some (.int .i64 ((add8 b c) 1)) := hb13.out.cell 1
      have u2 : (w9).cell? ⟨B13, 2, none⟩ = some (.int .i64 ((add8 b c) 2)) := hb13.out.cell 2
      have u3 : (w9).cell? ⟨B13, 3, none⟩ = some (.int .i64 ((add8 b c) 3)) := hb13.out.cell 3
      have u4 : (w9).cell? ⟨B13, 4, none⟩ = some (.int .i64 ((add8 b c) 4)) := hb13.out.cell 4
      have u5 : (w9).cell? ⟨B13, 5, none⟩ = some (.int .i64 ((add8 b c) 5)) := hb13.out.cell 5
      have u6 : (w9).cell? ⟨B13, 6, none⟩ = some (.int .i64 ((add8 b c) 6)) := hb13.out.cell 6
      have u7 : (w9).cell? ⟨B13, 7, none⟩ = some (.int .i64 ((add8 b c) 7)) := hb13.out.cell 7
      go_wp2_with fail
      refine (oCmp_any _ R (add8 a c) (add8 b c) _ hOw.out hR.out hd6.out hf6.out).mono ?_
      rintro e w10 ⟨rfl, hE⟩
      rw [hn3.out]
      replace hb7 := hide (hb7.out.ext hE)
      replace hb8 := hide (hb8.out.ext hE)
      replace hb9 := hide (hb9.out.ext hE)
      replace hb11 := hide (hb11.out.ext hE)
      replace hb13 := hide (hb13.out.ext hE)
      replace hOw := hide (hOw.out.ext hE)
      replace hEw := hide (hEw.out.trans hE)
      clear hE
      clear t0 t1 t2 t3 t4 t5 t6 t7 u0 u1 u2 u3 u4 u5 u6 u7
      have r0 : (w10).cell? ⟨B8, 0, none⟩ = some (.int .i64 (b 0)) := hb8.out.cell 0
      have r1 : (w10).cell? ⟨B8, 1, none⟩ = some (.int .i64 (b 1)) := hb8.out.cell 1
      have r2 : (w10).cell? ⟨B8, 2, none⟩ = some (.int .i64 (b 2)) := hb8.out.cell 2
      have r3 : (w10).cell? ⟨B8, 3, none⟩ = some (.int .i64 (b 3)) := hb8.out.cell 3
      have r4 : (w10).cell? ⟨B8, 4, none⟩ = some (.int .i64 (b 4)) := hb8.out.cell 4
      have r5 : (w10).cell? ⟨B8, 5, none⟩ = some (.int .i64 (b 5)) := hb8.out.cell 5
      have r6 : (w10).cell? ⟨B8, 6, none⟩ = some (.int .i64 (b 6)) := hb8.out.cell 6
      have r7 : (w10).cell? ⟨B8, 7, none⟩ = some (.int .i64 (b 7)) := hb8.out.cell 7
      have s0 : (w10).cell? ⟨B9, 0, none⟩ = some (.int .i64 (c 0)) := hb9.out.cell 0
      have s1 : (w10).cell? ⟨B9, 1, none⟩ = some (.int .i64 (c 1)) := hb9.out.cell 1
      have s2 : (w10).cell? ⟨B9, 2, none⟩ = some (.int .i64 (c 2)) := hb9.out.cell 2
      have s3 : (w10).cell? ⟨B9, 3, none⟩ = some (.int .i64 (c 3)) := hb9.out.cell 3
      have s4 : (w10).cell? ⟨B9, 4, none⟩ = some (.int .i64 (c 4)) := hb9.out.cell 4
      have s5 : (w10).cell? ⟨B9, 5, none⟩ = some (.int .i64 (c 5)) := hb9.out.cell 5
      have s6 : (w10).cell? ⟨B9, 6, none⟩ = some (.int .i64 (c 6)) := hb9.out.cell 6
      have s7 : (w10).cell? ⟨B9, 7, none⟩ = some (.int .i64 (c 7)) := hb9.out.cell 7
      go_wp2_with fail
      refine (oCmp_any _ R b c _ hOw.out hR.out hb6.out hc6.out).mono ?_
      rintro e w11 ⟨rfl, hE⟩
      replace hb7 := hide (hb7.out.ext hE)
      replace hb8 := hide (hb8.out.ext hE)
      replace hb9 := hide (hb9.out.ext hE)
      replace hb11 := hide (hb11.out.ext hE)
      replace hb13 := hide (hb13.out.ext hE)
      replace hOw := hide (hOw.out.ext hE)
      replace hEw := hide (hEw.out.trans hE)
      clear hE
      clear r0 r1 r2 r3 r4 r5 r6 r7 s0 s1 s2 s3 s4 s5 s6 s7
      by_cases hp : oCmp R b c ≥ 0
      · have hq : Hid (¬ oCmp R a c < 0) := hide (by have := (hac.out (by rw [hn.out]; decide) hp).1; omega)
        generalize oCmp R b c = p at *
        have q0 : (w11).cell? ⟨B7, 0, none⟩ = some (.int .i64 (a 0)) := hb7.out.cell 0
        have q1 : (w11).cell? ⟨B7, 1, none⟩ = some (.int .i64 (a 1)) := hb7.out.cell 1
        have q2 : (w11).cell? ⟨B7, 2, none⟩ = some (.int .i64 (a 2)) := hb7.out.cell 2
        have q3 : (w11).cell? ⟨B7, 3, none⟩ = some (.int .i64 (a 3)) := hb7.out.cell 3
        have q4 : (w11).cell? ⟨B7, 4, none⟩ = some (.int .i64 (a 4)) := hb7.out.cell 4
        have q5 : (w11).cell? ⟨B7, 5, none⟩ = some (.int .i64 (a 5)) := hb7.out.cell 5
        have q6 : (w11).cell? ⟨B7, 6, none⟩ = some (.int .i64 (a 6)) := hb7.out.cell 6
        have q7 : (w11).cell? ⟨B7, 7, none⟩ = some (.int .i64 (a 7)) := hb7.out.cell 7
        have s0 : (w11).cell? ⟨B9, 0, none⟩ = some (.int .i64 (c 0)) := hb9.out.cell 0
        have s1 : (w11).cell? ⟨B9, 1, none⟩ = some (.int .i64 (c 1)) := hb9.out.cell 1
        have s2 : (w11).cell? ⟨B9, 2, none⟩ = some (.int .i64 (c 2)) := hb9.out.cell 2
        have s3 : (w11).cell? ⟨B9, 3, none⟩ = some (.int .i64 (c 3)) := hb9.out.cell 3
        have s4 : (w11).cell? ⟨B9, 4, none⟩ = some (.int .i64 (c 4)) := hb9.out.cell 4
        have s5 : (w11).cell? ⟨B9, 5, none⟩ = some (.int .i64 (c 5)) := hb9.out.cell 5
        have s6 : (w11).cell? ⟨B9, 6, none⟩ = some (.int .i64 (c 6)) := hb9.out.cell 6
        have s7 : (w11).cell? ⟨B9, 7, none⟩ = some (.int .i64 (c 7)) := hb9.out.cell 7
        go_wp2_with fail
        refine (oCmp_any _ R a c _ hOw.out hR.out ha6.out hc6.out).mono ?_
        rintro e w12 ⟨rfl, hE⟩
        replace hb7 := hide (hb7.out.ext hE)
        replace hb8 := hide (hb8.out.ext hE)
        replace hb9 := hide (hb9.out.ext hE)
        replace hb11 := hide (hb11.out.ext hE)
        replace hb13 := hide (hb13.out.ext hE)
        replace hOw := hide (hOw.out.ext hE)
        replace hEw := hide (hEw.out.trans hE)
        clear hE
        clear q0 q1 q2 q3 q4 q5 q6 q7 s0 s1 s2 s3 s4 s5 s6 s7
        have q1 : 0 ≤ oCmp R a c := by have := hq.out; omega
        generalize oCmp R a c = q at *
        have q0 : (w12).cell? ⟨B7, 0, none⟩ = some (.int .i64 (a 0)) := hb7.out.cell 0
        have q1 : (w12).cell? ⟨B7, 1, none⟩ = some (.int .i64 (a 1)) := hb7.out.cell 1
        have q2 : (w12).cell? ⟨B7, 2, none⟩ = some (.int .i64 (a 2)) := hb7.out.cell 2
        have q3 : (w12).cell? ⟨B7, 3, none⟩ = some (.int .i64 (a 3)) := hb7.out.cell 3
        have q4 : (w12).cell? ⟨B7, 4, none⟩ = some (.int .i64 (a 4)) := hb7.out.cell 4
        have q5 : (w12).cell? ⟨B7, 5, none⟩ = some (.int .i64 (a 5)) := hb7.out.cell 5
        have q6 : (w12).cell? ⟨B7, 6, none⟩ = some (.int .i64 (a 6)) := hb7.out.cell 6
        have q7 : (w12).cell? ⟨B7, 7, none⟩ = some (.int .i64 (a 7)) := hb7.out.cell 7
        have t0 : (w12).cell? ⟨B11, 0, none⟩ = some (.int .i64 ((add8 a c) 0)) := hb11.out.cell 0
        have t1 : (w12).cell? ⟨B11, 1, none⟩ = some (.int .i64 ((add8 a c) 1)) := hb11.out.cell 1
        have t2 : (w12).cell? ⟨B11, 2, none⟩ = some (.int .i64 ((add8 a c) 2)) := hb11.out.cell 2
        have t3 : (w12).cell? ⟨B11, 3, none⟩ = some (.int .i64 ((add8 a c) 3)) := hb11.out.cell 3
        have t4 : (w12).cell? ⟨B11, 4, none⟩ = some (.int .i64 ((add8 a c) 4)) := hb11.out.cell 4
        have t5 : (w12).cell? ⟨B11, 5, none⟩ = some (.int .i64 ((add8 a c) 5)) := hb11.out.cell 5
        have t6 : (w12).cell? ⟨B11, 6, none⟩ = some (.int .i64 ((add8 a c) 6)) := hb11.out.cell 6
        have t7 : (w12).cell? ⟨B11, 7, none⟩ = some (.int .i64 ((add8 a c) 7)) := hb11.out.cell 7
        go_wp2_with fail
        refine (oCmp_any _ R (add8 a c) a _ hOw.out hR.out hd6.out ha6.out).mono ?_
        rintro e wz ⟨rfl, hE⟩
        replace hb7 := hide (hb7.out.ext hE)
        replace hb8 := hide (hb8.out.ext hE)
        replace hb9 := hide (hb9.out.ext hE)
        replace hb11 := hide (hb11.out.ext hE)
        replace hb13 := hide (hb13.out.ext hE)
        replace hOw := hide (hOw.out.ext hE)
        replace hEw := hide (hEw.out.trans hE)
        clear hE
        clear q0 q1 q2 q3 q4 q5 q6 q7 t0 t1 t2 t3 t4 t5 t6 t7
        have s1 : oCmp R (add8 a c) a ≥ 0 := hs.out
        generalize oCmp R (add8 a c) a = s at *
        go_wp2
        go_ret
        exact ⟨rfl, hEw.out⟩
      · generalize oCmp R b c = p at *
        have q0 : (w11).cell? ⟨B7, 0, none⟩ = some (.int .i64 (a 0)) := hb7.out.cell 0
        have q1 : (w11).cell? ⟨B7, 1, none⟩ = some (.int .i64 (a 1)) := hb7.out.cell 1
        have q2 : (w11).cell? ⟨B7, 2, none⟩ = some (.int .i64 (a 2)) := hb7.out.cell 2
        have q3 : (w11).cell? ⟨B7, 3, none⟩ = some (.int .i64 (a 3)) := hb7.out.cell 3
        have q4 : (w11).cell? ⟨B7, 4, none⟩ = some (.int .i64 (a 4)) := hb7.out.cell 4
        have q5 : (w11).cell? ⟨B7, 5, none⟩ = some (.int .i64 (a 5)) := hb7.out.cell 5
        have q6 : (w11).cell? ⟨B7, 6, none⟩ = some (.int .i64 (a 6)) := hb7.out.cell 6
        have q7 : (w11).cell? ⟨B7, 7, none⟩ = some (.int .i64 (a 7)) := hb7.out.cell 7
        have t0 : (w11).cell? ⟨B11, 0, none⟩ = some (.int .i64 ((add8 a c) 0)) := hb11.out.cell 0
        have t1 : (w11).cell? ⟨B11, 1, none⟩ = some (.int .i64 ((add8 a c) 1)) := hb11.out.cell 1
        have t2 : (w11).cell? ⟨B11, 2, none⟩ = some (.int .i64 ((add8 a c) 2)) := hb11.out.cell 2
        have t3 : (w11).cell? ⟨B11, 3, none⟩ = some (.int .i64 ((add8 a c) 3)) := hb11.out.cell 3
        have t4 : (w11).cell? ⟨B11, 4, none⟩ = some (.int .i64 ((add8 a c) 4)) := hb11.out.cell 4
        have t5 : (w11).cell? ⟨B11, 5, none⟩ = some (.int .i64 ((add8 a c) 5)) := hb11.out.cell 5
        have t6 : (w11).cell? ⟨B11, 6, none⟩ = some (.int .i64 ((add8 a c) 6)) := hb11.out.cell 6
        have t7 : (w11).cell? ⟨B11, 7, none⟩ = some (.int .i64 ((add8 a c) 7)) := hb11.out.cell 7
        go_wp2_with fail
        refine (oCmp_any _ R (add8 a c) a _ hOw.out hR.out hd6.out ha6.out).mono ?_
        rintro e wz ⟨rfl, hE⟩
        replace hb7 := hide (hb7.out.ext hE)
        replace hb8 := hide (hb8.out.ext hE)
        replace hb9 := hide (hb9.out.ext hE)
        replace hb11 := hide (hb11.out.ext hE)
        replace hb13 := hide (hb13.out.ext hE)
        replace hOw := hide (hOw.out.ext hE)
        replace hEw := hide (hEw.out.trans hE)
        clear hE
        clear q0 q1 q2 q3 q4 q5 q6 q7 t0 t1 t2 t3 t4 t5 t6 t7
        have s1 : oCmp R (add8 a c) a ≥ 0 := hs.out
        generalize oCmp R (add8 a c) a = s at *
        go_wp2
        go_ret
        exact ⟨rfl, hEw.out⟩
    · have heq : ∀ W, _ := fun W => run_eq_mono a b W
      rw [show eqB a b = false from Bool.eq_false_iff.2 fun h => by have := oCmp_zero (R := R).2 (eqB_true.1 h); omega] at heq
      have hn2 : Hid (oCmp R b a = -1) := by rw [hab.out, hn]; rfl
      have hn3 : Hid (oCmp R (add8 a c) (add8 b c) = 1) := hdf.out.trans hn
      replace hn := hide hn
      replace heq := hide heq
      clear hab hdf
      have q0 : (w1).cell? ⟨B7, 0, none⟩ = some (.int .i64 (a 0)) := hb7.out.cell 0
      have q1 : (w1).cell? ⟨B7, 1, none⟩ = some (.int .i64 (a 1)) := hb7.out.cell 1
      have q2 : (w1).cell? ⟨B7, 2, none⟩ = some (.int .i64 (a 2)) := hb7.out.cell 2
      have q3 : (w1).cell? ⟨B7, 3, none⟩ = some (.int .i64 (a 3)) := hb7.out.cell 3
      have q4 : (w1).cell? ⟨B7, 4, none⟩ = some (.int .i64 (a 4)) := hb7.out.cell 4
      have q5 : (w1).cell? ⟨B7, 5, none⟩ = some (.int .i64 (a 5)) := hb7.out.cell 5
      have q6 : (w1).cell? ⟨B7, 6, none⟩ = some (.int .i64 (a 6)) := hb7.out.cell 6
      have q7 : (w1).cell? ⟨B7, 7, none⟩ = some (.int .i64 (a 7)) := hb7.out.cell 7
      have r0 : (w1).cell? ⟨B8, 0, none⟩ = some (.int .i64 (b 0)) := hb8.out.cell 0
      have r1 : (w1).cell? ⟨B8, 1, none⟩ = some (.int .i64 (b 1)) := hb8.out.cell 1
      have r2 : (w1).cell? ⟨B8, 2, none⟩ = some (.int .i64 (b 2)) := hb8.out.cell 2
      have r3 : (w1).cell? ⟨B8, 3, none⟩ = some (.int .i64 (b 3)) := hb8.out.cell 3
      have r4 : (w1).cell? ⟨B8, 4, none⟩ = some (.int .i64 (b 4)) := hb8.out.cell 4
      have r5 : (w1).cell? ⟨B8, 5, none⟩ = some (.int .i64 (b 5)) := hb8.out.cell 5
      have r6 : (w1).cell? ⟨B8, 6, none⟩ = some (.int .i64 (b 6)) := hb8.out.cell 6
      have r7 : (w1).cell? ⟨B8, 7, none⟩ = some (.int .i64 (b 7)) := hb8.out.cell 7
      go_wp2_with fail
      refine (oCmp_any _ R a b _ hOw.out hR.out ha6.out hb6.out).mono ?_
      rintro e w2 ⟨rfl, hE⟩
      rw [hn.out]
      replace hb7 := hide (hb7.out.ext hE)
      replace hb8 := hide (hb8.out.ext hE)
      replace hb9 := hide (hb9.out.ext hE)
      replace hOw := hide (hOw.out.ext hE)
      replace hEw := hide (hEw.out.trans hE)
      clear hE
      clear q0 q1 q2 q3 q4 q5 q6 q7 r0 r1 r2 r3 r4 r5 r6 r7
      go_wp2_with fail
      refine (oValid_any _ R _ hOw.out).mono ?_
      rintro e w3 ⟨rfl, hE⟩
      rw [ovB_true hV.out]
      replace hb7 := hide (hb7.out.ext hE)
      replace hb8 := hide (hb8.out.ext hE)
      replace hb9 := hide (hb9.out.ext hE)
      replace hOw := hide (hOw.out.ext hE)
      replace hEw := hide (hEw.out.trans hE)
      clear hE
      have q0 : (w3).cell? ⟨B7, 0, none⟩ = some (.int .i64 (a 0)) := hb7.out.cell 0
      have q1 : (w3).cell? ⟨B7, 1, none⟩ = some (.int .i64 (a 1)) := hb7.out.cell 1
      have q2 : (w3).cell? ⟨B7, 2, none⟩ = some (.int .i64 (a 2)) := hb7.out.cell 2
      have q3 : (w3).cell? ⟨B7, 3, none⟩ = some (.int .i64 (a 3)) := hb7.out.cell 3
      have q4 : (w3).cell? ⟨B7, 4, none⟩ = some (.int .i64 (a 4)) := hb7.out.cell 4
      have q5 : (w3).cell? ⟨B7, 5, none⟩ = some (.int .i64 (a 5)) := hb7.out.cell 5
      have q6 : (w3).cell? ⟨B7, 6, none⟩ = some (.int .i64 (a 6)) := hb7.out.cell 6
      have q7 : (w3).cell? ⟨B7, 7, none⟩ = some (.int .i64 (a 7)) := hb7.out.cell 7
      have r0 : (w3).cell? ⟨B8, 0, none⟩ = some (.int .i64 (b 0)) := hb8.out.cell 0
      have r1 : (w3).cell? ⟨B8, 1, none⟩ = some (.int .i64 (b 1)) := hb8.out.cell 1
      have r2 : (w3).cell? ⟨B8, 2, none⟩ = some (.int .i64 (b 2)) := hb8.out.cell 2
      have r3 : (w3).cell? ⟨B8, 3, none⟩ = some (.int .i64 (b 3)) := hb8.out.cell 3
      have r4 : (w3).cell? ⟨B8, 4, none⟩ = some (.int .i64 (b 4)) := hb8.out.cell 4
      have r5 : (w3).cell? ⟨B8, 5, none⟩ = some (.int .i64 (b 5)) := hb8.out.cell 5
      have r6 : (w3).cell? ⟨B8, 6, none⟩ = some (.int .i64 (b 6)) := hb8.out.cell 6
      have r7 : (w3).cell? ⟨B8, 7, none⟩ = some (.int .i64 (b 7)) := hb8.out.cell 7
      go_wp2_with fail
      refine (oCmp_any _ R b a _ hOw.out hR.out hb6.out ha6.out).mono ?_
      rintro e w4 ⟨rfl, hE⟩
      rw [hn2.out]
      replace hb7 := hide (hb7.out.ext hE)
      replace hb8 := hide (hb8.out.ext hE)
      replace hb9 := hide (hb9.out.ext hE)
      replace hOw := hide (hOw.out.ext hE)
      replace hEw := hide (hEw.out.trans hE)
      clear hE
      clear q0 q1 q2 q3 q4 q5 q6 q7 r0 r1 r2 r3 r4 r5 r6 r7
      have q0 : (w4).cell? ⟨B7, 0, none⟩ = some (.int .i64 (a 0)) := hb7.out.cell 0
      have q1 : (w4).cell? ⟨B7, 1, none⟩ = some (.int .i64 (a 1)) := hb7.out.cell 1
      have q2 : (w4).cell? ⟨B7, 2, none⟩ = some (.int .i64 (a 2)) := hb7.out.cell 2
      have q3 : (w4).cell? ⟨B7, 3, none⟩ = some (.int .i64 (a 3)) := hb7.out.cell 3
      have q4 : (w4).cell? ⟨B7, 4, none⟩ = some (.int .i64 (a 4)) := hb7.out.cell 4
      have q5 : (w4).cell? ⟨B7, 5, none⟩ = some (.int .i64 (a 5)) := hb7.out.cell 5
      have q6 : (w4).cell? ⟨B7, 6, none⟩ = some (.int .i64 (a 6)) := hb7.out.cell 6
      have q7 : (w4).cell? ⟨B7, 7, none⟩ = some (.int .i64 (a 7)) := hb7.out.cell 7
      have r0 : (w4).cell? ⟨B8, 0, none⟩ = some (.int .i64 (b 0)) := hb8.out.cell 0
      have r1 : (w4).cell? ⟨B8, 1, none⟩ = some (.int .i64 (b 1)) := hb8.out.cell 1
      have r2 : (w4).cell? ⟨B8, 2, none⟩ = some (.int .i64 (b 2)) := hb8.out.cell 2
      have r3 : (w4).cell? ⟨B8, 3, none⟩ = some (.int .i64 (b 3)) := hb8.out.cell 3
      have r4 : (w4).cell? ⟨B8, 4, none⟩ = some (.int .i64 (b 4)) := hb8.out.cell 4
      have r5 : (w4).cell? ⟨B8, 5, none⟩ = some (.int .i64 (b 5)) := hb8.out.cell 5
      have r6 : (w4).cell? ⟨B8, 6, none⟩ = some (.int .i64 (b 6)) := hb8.out.cell 6
      have r7 : (w4).cell? ⟨B8, 7, none⟩ = some (.int .i64 (b 7)) := hb8.out.cell 7
      have heq' := heq.out
      go_wp2_with fail
      refine (oCmp_any _ R a (fun _ => 0) _ hOw.out hR.out ha6.out h06.out).mono ?_
      rintro e w5 ⟨rfl, hE⟩
      replace hb7 := hide (hb7.out.ext hE)
      replace hb8 := hide (hb8.out.ext hE)
      replace hb9 := hide (hb9.out.ext hE)
      replace hOw := hide (hOw.out.ext hE)
      replace hEw := hide (hEw.out.trans hE)
      clear hE
      clear q0 q1 q2 q3 q4 q5 q6 q7 r0 r1 r2 r3 r4 r5 r6 r7
      clear heq' heq
      have z1 : ¬ oCmp R a (fun _ => 0) < 0 := by have := hz.out; omega
      generalize oCmp R a (fun _ => 0) = z at *
      have q0 : (w5).cell? ⟨B7, 0, none⟩ = some (.int .i64 (a 0)) := hb7.out.cell 0
      have q1 : (w5).cell? ⟨B7, 1, none⟩ = some (.int .i64 (a 1)) := hb7.out.cell 1
      have q2 : (w5).cell? ⟨B7, 2, none⟩ = some (.int .i64 (a 2)) := hb7.out.cell 2
      have q3 : (w5).cell? ⟨B7, 3, none⟩ = some (.int .i64 (a 3)) := hb7.out.cell 3
      have q4 : (w5).cell? ⟨B7, 4, none⟩ = some (.int .i64 (a 4)) := hb7.out.cell 4
      have q5 : (w5).cell? ⟨B7, 5, none⟩ = some (.int .i64 (a 5)) := hb7.out.cell 5
      have q6 : (w5).cell? ⟨B7, 6, none⟩ = some (.int .i64 (a 6)) := hb7.out.cell 6
      have q7 : (w5).cell? ⟨B7, 7, none⟩ = some (.int .i64 (a 7)) := hb7.out.cell 7
      have s0 : (w5).cell? ⟨B9, 0, none⟩ = some (.int .i64 (c 0)) := hb9.out.cell 0
      have s1 : (w5).cell? ⟨B9, 1, none⟩ = some (.int .i64 (c 1)) := hb9.out.cell 1
      have s2 : (w5).cell? ⟨B9, 2, none⟩ = some (.int .i64 (c 2)) := hb9.out.cell 2
      have s3 : (w5).cell? ⟨B9, 3, none⟩ = some (.int .i64 (c 3)) := hb9.out.cell 3
      have s4 : (w5).cell? ⟨B9, 4, none⟩ = some (.int .i64 (c 4)) := hb9.out.cell 4
      have s5 : (w5).cell? ⟨B9, 5, none⟩ = some (.int .i64 (c 5)) := hb9.out.cell 5
      have s6 : (w5).cell? ⟨B9, 6, none⟩ = some (.int .i64 (c 6)) := hb9.out.cell 6
      have s7 : (w5).cell? ⟨B9, 7, none⟩ = some (.int .i64 (c 7)) := hb9.out.cell 7
      go_wp2_with fail
      refine (ma.out _).mono ?_
      rintro e w6 ⟨rfl, hE⟩
      replace hb7 := hide (hb7.out.ext hE)
      replace hb8 := hide (hb8.out.ext hE)
      replace hb9 := hide (hb9.out.ext hE)
      replace hOw := hide (hOw.out.ext hE)
      replace hEw := hide (hEw.out.trans hE)
      clear hE
      clear q0 q1 q2 q3 q4 q5 q6 q7 s0 s1 s2 s3 s4 s5 s6 s7
      have hb11 : Hid (Blk (w6.alloc (.cells #[.int .i64 (add8 a c 0), .int .i64 (add8 a c 1), .int .i64 (add8 a c 2), .int .i64 (add8 a c 3), .int .i64 (add8 a c 4), .int .i64 (add8 a c 5), .int .i64 (add8 a c 6), .int .i64 (add8 a c 7)] 35)) w6.heap.size 35 (c8 (add8 a c))) := Blk.new _ _ _
      have hE : Ext w6 (w6.alloc (.cells #[.int .i64 (add8 a c 0), .int .i64 (add8 a c 1), .int .i64 (add8 a c 2), .int .i64 (add8 a c 3), .int .i64 (add8 a c 4), .int .i64 (add8 a c 5), .int .i64 (add8 a c 6), .int .i64 (add8 a c 7)] 35)) := (Ext.refl w6).alloc _
      replace hb7 := hide (hb7.out.ext hE)
      replace hb8 := hide (hb8.out.ext hE)
      replace hb9 := hide (hb9.out.ext hE)
      replace hOw := hide (hOw.out.ext hE)
      replace hEw := hide (hEw.out.trans hE)
      clear hE
      go_upto_region 9 with (fail)
      generalize (w6.alloc (.cells #[.int .i64 (add8 a c 0), .int .i64 (add8 a c 1), .int .i64 (add8 a c 2), .int .i64 (add8 a c 3), .int .i64 (add8 a c 4), .int .i64 (add8 a c 5), .int .i64 (add8 a c 6), .int .i64 (add8 a c 7)] 35)) = w7 at *
      generalize w6.heap.size = B11 at *
      have r0 : (w7).cell? ⟨B8, 0, none⟩ = some (.int .i64 (b 0)) := hb8.out.cell 0
      have r1 : (w7).cell? ⟨B8, 1, none⟩ = some (.int .i64 (b 1)) := hb8.out.cell 1
      have r2 : (w7).cell? ⟨B8, 2, none⟩ = some (.int .i64 (b 2)) := hb8.out.cell 2
      have r3 : (w7).cell? ⟨B8, 3, none⟩ = some (.int .i64 (b 3)) := hb8.out.cell 3
      have r4 : (w7).cell? ⟨B8, 4, none⟩ = some (.int .i64 (b 4)) := hb8.out.cell 4
      have r5 : (w7).cell? ⟨B8, 5, none⟩ = some (.int .i64 (b 5)) := hb8.out.cell 5
      have r6 : (w7).cell? ⟨B8, 6, none⟩ = some (.int .i64 (b 6)) := hb8.out.cell 6
      have r7 : (w7).cell? ⟨B8, 7, none⟩ = some (.int .i64 (b 7)) := hb8.out.cell 7
      have s0 : (w7).cell? ⟨B9, 0, none⟩ = some (.int .i64 (c 0)) := hb9.out.cell 0
      have s1 : (w7).cell? ⟨B9, 1, none⟩ = some (.int .i64 (c 1)) := hb9.out.cell 1
      have s2 : (w7).cell? ⟨B9, 2, none⟩ = some (.int .i64 (c 2)) := hb9.out.cell 2
      have s3 : (w7).cell? ⟨B9, 3, none⟩ = some (.int .i64 (c 3)) := hb9.out.cell 3
      have s4 : (w7).cell? ⟨B9, 4, none⟩ = some (.int .i64 (c 4)) := hb9.out.cell 4
      have s5 : (w7).cell? ⟨B9, 5, none⟩ = some (.int .i64 (c 5)) := hb9.out.cell 5
      have s6 : (w7).cell? ⟨B9, 6, none⟩ = some (.int .i64 (c 6)) := hb9.out.cell 6
      have s7 : (w7).cell? ⟨B9, 7, none⟩ = some (.int .i64 (c 7)) := hb9.out.cell 7
      go_wp2_with fail
      refine (mb.out _).mono ?_
      rintro e w8 ⟨rfl, hE⟩
      replace hb7 := hide (hb7.out.ext hE)
      replace hb8 := hide (hb8.out.ext hE)
      replace hb9 := hide (hb9.out.ext hE)
      replace hb11 := hide (hb11.out.ext hE)
      replace hOw := hide (hOw.out.ext hE)
      replace hEw := hide (hEw.out.trans hE)
      clear hE
      clear r0 r1 r2 r3 r4 r5 r6 r7 s0 s1 s2 s3 s4 s5 s6 s7
      have hb13 : Hid (Blk (w8.alloc (.cells #[.int .i64 (add8 b c 0), .int .i64 (add8 b c 1), .int .i64 (add8 b c 2), .int .i64 (add8 b c 3), .int .i64 (add8 b c 4), .int .i64 (add8 b c 5), .int .i64 (add8 b c 6), .int .i64 (add8 b c 7)] 35)) w8.heap.size 35 (c8 (add8 b c))) := Blk.new _ _ _
      have hE : Ext w8 (w8.alloc (.cells #[.int .i64 (add8 b c 0), .int .i64 (add8 b c 1), .int .i64 (add8 b c 2), .int .i64 (add8 b c 3), .int .i64 (add8 b c 4), .int .i64 (add8 b c 5), .int .i64 (add8 b c 6), .int .i64 (add8 b c 7)] 35)) := (Ext.refl w8).alloc _
      replace hb7 := hide (hb7.out.ext hE)
      replace hb8 := hide (hb8.out.ext hE)
      replace hb9 := hide (hb9.out.ext hE)
      replace hb11 := hide (hb11.out.ext hE)
      replace hOw := hide (hOw.out.ext hE)
      replace hEw := hide (hEw.out.trans hE)
      clear hE
      go_upto_region 10 with (fail)
      generalize (w8.alloc (.cells #[.int .i64 (add8 b c 0), .int .i64 (add8 b c 1), .int .i64 (add8 b c 2), .int .i64 (add8 b c 3), .int .i64 (add8 b c 4), .int .i64 (add8 b c 5), .int .i64 (add8 b c 6), .int .i64 (add8 b c 7)] 35)) = w9 at *
      generalize w8.heap.size = B13 at *
      have t0 : (w9).cell? ⟨B11, 0, none⟩ = some (.int .i64 ((add8 a c) 0)) := hb11.out.cell 0
      have t1 : (w9).cell? ⟨B11, 1, none⟩ = some (.int .i64 ((add8 a c) 1)) := hb11.out.cell 1
      have t2 : (w9).cell? ⟨B11, 2, none⟩ = some (.int .i64 ((add8 a c) 2)) := hb11.out.cell 2
      have t3 : (w9).cell? ⟨B11, 3, none⟩ = some (.int .i64 ((add8 a c) 3)) := hb11.out.cell 3
      have t4 : (w9).cell? ⟨B11, 4, none⟩ = some (.int .i64 ((add8 a c) 4)) := hb11.out.cell 4
      have t5 : (w9).cell? ⟨B11, 5, none⟩ = some (.int .i64 ((add8 a c) 5)) := hb11.out.cell 5
      have t6 : (w9).cell? ⟨B11, 6, none⟩ = some (.int .i64 ((add8 a c) 6)) := hb11.out.cell 6
      have t7 : (w9).cell? ⟨B11, 7, none⟩ = some (.int .i64 ((add8 a c) 7)) := hb11.out.cell 7
      have u0 : (w9).cell? ⟨B13, 0, none⟩ = some (.int .i64 ((add8 b c) 0)) := hb13.out.cell 0
      have u1 : (w9).cell? ⟨B13, 1, none⟩ = some (.int .i64 ((add8 b c) 1)) := hb13.out.cell 1
      have u2 : (w9).cell? ⟨B13, 2, none⟩ = some (.int .i64 ((add8 b c) 2)) := hb13.out.cell 2
      have u3 : (w9).cell? ⟨B13, 3, none⟩ = some (.int .i64 ((add8 b c) 3)) := hb13.out.cell 3
      have u4 : (w9).cell? ⟨B13, 4, none⟩ = some (.int .i64 ((add8 b c) 4)) := hb13.out.cell 4
      have u5 : (w9).cell? ⟨B13, 5, none⟩ = some (.int .i64 ((add8 b c) 5)) := hb13.out.cell 5
      have u6 : (w9).cell? ⟨B13, 6, none⟩ = some (.int .i64 ((add8 b c) 6)) := hb13.out.cell 6
      have u7 : (w9).cell? ⟨B13, 7, none⟩ = some (.int .i64 ((add8 b c) 7)) := hb13.out.cell 7
      go_wp2_with fail
      refine (oCmp_any _ R (add8 a c) (add8 b c) _ hOw.out hR.out hd6.out hf6.out).mono ?_
      rintro e w10 ⟨rfl, hE⟩
      rw [hn3.out]
      replace hb7 := hide (hb7.out.ext hE)
      replace hb8 := hide (hb8.out.ext hE)
      replace hb9 := hide (hb9.out.ext hE)
      replace hb11 := hide (hb11.out.ext hE)
      replace hb13 := hide (hb13.out.ext hE)
      replace hOw := hide (hOw.out.ext hE)
      replace hEw := hide (hEw.out.trans hE)
      clear hE
      clear t0 t1 t2 t3 t4 t5 t6 t7 u0 u1 u2 u3 u4 u5 u6 u7
      have r0 : (w10).cell? ⟨B8, 0, none⟩ = some (.int .i64 (b 0)) := hb8.out.cell 0
      have r1 : (w10).cell? ⟨B8, 1, none⟩ = some (.int .i64 (b 1)) := hb8.out.cell 1
      have r2 : (w10).cell? ⟨B8, 2, none⟩ = some (.int .i64 (b 2)) := hb8.out.cell 2
      have r3 : (w10).cell? ⟨B8, 3, none⟩ = some (.int .i64 (b 3)) := hb8.out.cell 3
      have r4 : (w10).cell? ⟨B8, 4, none⟩ = some (.int .i64 (b 4)) := hb8.out.cell 4
      have r5 : (w10).cell? ⟨B8, 5, none⟩ = some (.int .i64 (b 5)) := hb8.out.cell 5
      have r6 : (w10).cell? ⟨B8, 6, none⟩ = some (.int .i64 (b 6)) := hb8.out.cell 6
      have r7 : (w10).cell? ⟨B8, 7, none⟩ = some (.int .i64 (b 7)) := hb8.out.cell 7
      have s0 : (w10).cell? ⟨B9, 0, none⟩ = some (.int .i64 (c 0)) := hb9.out.cell 0
      have s1 : (w10).cell? ⟨B9, 1, none⟩ = some (.int .i64 (c 1)) := hb9.out.cell 1
      have s2 : (w10).cell? ⟨B9, 2, none⟩ = some (.int .i64 (c 2)) := hb9.out.cell 2
      have s3 : (w10).cell? ⟨B9, 3, none⟩ = some (.int .i64 (c 3)) := hb9.out.cell 3
      have s4 : (w10).cell? ⟨B9, 4, none⟩ = some (.int .i64 (c 4)) := hb9.out.cell 4
      have s5 : (w10).cell? ⟨B9, 5, none⟩ = some (.int .i64 (c 5)) := hb9.out.cell 5
      have s6 : (w10).cell? ⟨B9, 6, none⟩ = some (.int .i64 (c 6)) := hb9.out.cell 6
      have s7 : (w10).cell? ⟨B9, 7, none⟩ = some (.int .i64 (c 7)) := hb9.out.cell 7
      go_wp2_with fail
      refine (oCmp_any _ R b c _ hOw.out hR.out hb6.out hc6.out).mono ?_
      rintro e w11 ⟨rfl, hE⟩
      replace hb7 := hide (hb7.out.ext hE)
      replace hb8 := hide (hb8.out.ext hE)
      replace hb9 := hide (hb9.out.ext hE)
      replace hb11 := hide (hb11.out.ext hE)
      replace hb13 := hide (hb13.out.ext hE)
      replace hOw := hide (hOw.out.ext hE)
      replace hEw := hide (hEw.out.trans hE)
      clear hE
      clear r0 r1 r2 r3 r4 r5 r6 r7 s0 s1 s2 s3 s4 s5 s6 s7
      by_cases hp : oCmp R b c ≥ 0
      · have hq : Hid (¬ oCmp R a c < 0) := hide (by have := (hac.out (by rw [hn.out]; decide) hp).1; omega)
        generalize oCmp R b c = p at *
        have q0 : (w11).cell? ⟨B7, 0, none⟩ = some (.int .i64 (a 0)) := hb7.out.cell 0
        have q1 : (w11).cell? ⟨B7, 1, none⟩ = some (.int .i64 (a 1)) := hb7.out.cell 1
        have q2 : (w11).cell? ⟨B7, 2, none⟩ = some (.int .i64 (a 2)) := hb7.out.cell 2
        have q3 : (w11).cell? ⟨B7, 3, none⟩ = some (.int .i64 (a 3)) := hb7.out.cell 3
        have q4 : (w11).cell? ⟨B7, 4, none⟩ = some (.int .i64 (a 4)) := hb7.out.cell 4
        have q5 : (w11).cell? ⟨B7, 5, none⟩ = some (.int .i64 (a 5)) := hb7.out.cell 5
        have q6 : (w11).cell? ⟨B7, 6, none⟩ = some (.int .i64 (a 6)) := hb7.out.cell 6
        have q7 : (w11).cell? ⟨B7, 7, none⟩ = some (.int .i64 (a 7)) := hb7.out.cell 7
        have s0 : (w11).cell? ⟨B9, 0, none⟩ = some (.int .i64 (c 0)) := hb9.out.cell 0
        have s1 : (w11).cell? ⟨B9, 1, none⟩ = some (.int .i64 (c 1)) := hb9.out.cell 1
        have s2 : (w11).cell? ⟨B9, 2, none⟩ = some (.int .i64 (c 2)) := hb9.out.cell 2
        have s3 : (w11).cell? ⟨B9, 3, none⟩ = some (.int .i64 (c 3)) := hb9.out.cell 3
        have s4 : (w11).cell? ⟨B9, 4, none⟩ = some (.int .i64 (c 4)) := hb9.out.cell 4
        have s5 : (w11).cell? ⟨B9, 5, none⟩ = some (.int .i64 (c 5)) := hb9.out.cell 5
        have s6 : (w11).cell? ⟨B9, 6, none⟩ = some (.int .i64 (c 6)) := hb9.out.cell 6
        have s7 : (w11).cell? ⟨B9, 7, none⟩ = some (.int .i64 (c 7)) := hb9.out.cell 7
        go_wp2_with fail
        refine (oCmp_any _ R a c _ hOw.out hR.out ha6.out hc6.out).mono ?_
        rintro e w12 ⟨rfl, hE⟩
        replace hb7 := hide (hb7.out.ext hE)
        replace hb8 := hide (hb8.out.ext hE)
        replace hb9 := hide (hb9.out.ext hE)
        replace hb11 := hide (hb11.out.ext hE)
        replace hb13 := hide (hb13.out.ext hE)
        replace hOw := hide (hOw.out.ext hE)
        replace hEw := hide (hEw.out.trans hE)
        clear hE
        clear q0 q1 q2 q3 q4 q5 q6 q7 s0 s1 s2 s3 s4 s5 s6 s7
        have q1 : 0 ≤ oCmp R a c := by have := hq.out; omega
        generalize oCmp R a c = q at *
        have q0 : (w12).cell? ⟨B7, 0, none⟩ = some (.int .i64 (a 0)) := hb7.out.cell 0
        have q1 : (w12).cell? ⟨B7, 1, none⟩ = some (.int .i64 (a 1)) := hb7.out.cell 1
        have q2 : (w12).cell? ⟨B7, 2, none⟩ = some (.int .i64 (a 2)) := hb7.out.cell 2
        have q3 : (w12).cell? ⟨B7, 3, none⟩ = some (.int .i64 (a 3)) := hb7.out.cell 3
        have q4 : (w12).cell? ⟨B7, 4, none⟩ = some (.int .i64 (a 4)) := hb7.out.cell 4
        have q5 : (w12).cell? ⟨B7, 5, none⟩ = some (.int .i64 (a 5)) := hb7.out.cell 5
        have q6 : (w12).cell? ⟨B7, 6, none⟩ = some (.int .i64 (a 6)) := hb7.out.cell 6
        have q7 : (w12).cell? ⟨B7, 7, none⟩ = some (.int .i64 (a 7)) := hb7.out.cell 7
        have t0 : (w12).cell? ⟨B11, 0, none⟩ = some (.int .i64 ((add8 a c) 0)) := hb11.out.cell 0
        have t1 : (w12).cell? ⟨B11, 1, none⟩ = some (.int .i64 ((add8 a c) 1)) := hb11.out.cell 1
        have t2 : (w12).cell? ⟨B11, 2, none⟩ = some (.int .i64 ((add8 a c) 2)) := hb11.out.cell 2
        have t3 : (w12).cell? ⟨B11, 3, none⟩ = some (.int .i64 ((add8 a c) 3)) := hb11.out.cell 3
        have t4 : (w12).cell? ⟨B11, 4, none⟩ = some (.int .i64 ((add8 a c) 4)) := hb11.out.cell 4
        have t5 : (w12).cell? ⟨B11, 5, none⟩ = some (.int .i64 ((add8 a c) 5)) := hb11.out.cell 5
        have t6 : (w12).cell? ⟨B11, 6, none⟩ = some (.int .i64 ((add8 a c) 6)) := hb11.out.cell 6
        have t7 : (w12).cell? ⟨B11, 7, none⟩ = some (.int .i64 ((add8 a c) 7)) := hb11.out.cell 7
        go_wp2_with fail
        refine (oCmp_any _ R (add8 a c) a _ hOw.out hR.out hd6.out ha6.out).mono ?_
        rintro e wz ⟨rfl, hE⟩
        replace hb7 := hide (hb7.out.ext hE)
        replace hb8 := hide (hb8.out.ext hE)
        replace hb9 := hide (hb9.out.ext hE)
        replace hb11 := hide (hb11.out.ext hE)
        replace hb13 := hide (hb13.out.ext hE)
        replace hOw := hide (hOw.out.ext hE)
        replace hEw := hide (hEw.out.trans hE)
        clear hE
        clear q0 q1 q2 q3 q4 q5 q6 q7 t0 t1 t2 t3 t4 t5 t6 t7
        have s1 : oCmp R (add8 a c) a ≥ 0 := hs.out
        generalize oCmp R (add8 a c) a = s at *
        go_wp2
        go_ret
        exact ⟨rfl, hEw.out⟩
      · generalize oCmp R b c = p at *
        have q0 : (w11).cell? ⟨B7, 0, none⟩ = some (.int .i64 (a 0)) := hb7.out.cell 0
        have q1 : (w11).cell? ⟨B7, 1, none⟩ = some (.int .i64 (a 1)) := hb7.out.cell 1
        have q2 : (w11).cell? ⟨B7, 2, none⟩ = some (.int .i64 (a 2)) := hb7.out.cell 2
        have q3 : (w11).cell? ⟨B7, 3, none⟩ = some (.int .i64 (a 3)) := hb7.out.cell 3
        have q4 : (w11).cell? ⟨B7, 4, none⟩ = some (.int .i64 (a 4)) := hb7.out.cell 4
        have q5 : (w11).cell? ⟨B7, 5, none⟩ = some (.int .i64 (a 5)) := hb7.out.cell 5
        have q6 : (w11).cell? ⟨B7, 6, none⟩ = some (.int .i64 (a 6)) := hb7.out.cell 6
        have q7 : (w11).cell? ⟨B7, 7, none⟩ = some (.int .i64 (a 7)) := hb7.out.cell 7
        have t0 : (w11).cell? ⟨B11, 0, none⟩ = some (.int .i64 ((add8 a c) 0)) := hb11.out.cell 0
        have t1 : (w11).cell? ⟨B11, 1, none⟩ = some (.int .i64 ((add8 a c) 1)) := hb11.out.cell 1
        have t2 : (w11).cell? ⟨B11, 2, none⟩ = some (.int .i64 ((add8 a c) 2)) := hb11.out.cell 2
        have t3 : (w11).cell? ⟨B11, 3, none⟩ = some (.int .i64 ((add8 a c) 3)) := hb11.out.cell 3
        have t4 : (w11).cell? ⟨B11, 4, none⟩ = some (.int .i64 ((add8 a c) 4)) := hb11.out.cell 4
        have t5 : (w11).cell? ⟨B11, 5, none⟩ = some (.int .i64 ((add8 a c) 5)) := hb11.out.cell 5
        have t6 : (w11).cell? ⟨B11, 6, none⟩ = some (.int .i64 ((add8 a c) 6)) := hb11.out.cell 6
        have t7 : (w11).cell? ⟨B11, 7, none⟩ = some (.int .i64 ((add8 a c) 7)) := hb11.out.cell 7
        go_wp2_with fail
        refine (oCmp_any _ R (add8 a c) a _ hOw.out hR.out hd6.out ha6.out).mono ?_
        rintro e wz ⟨rfl, hE⟩
        replace hb7 := hide (hb7.out.ext hE)
        replace hb8 := hide (hb8.out.ext hE)
        replace hb9 := hide (hb9.out.ext hE)
        replace hb11 := hide (hb11.out.ext hE)
        replace hb13 := hide (hb13.out.ext hE)
        replace hOw := hide (hOw.out.ext hE)
        replace hEw := hide (hEw.out.trans hE)
        clear hE
        clear q0 q1 q2 q3 q4 q5 q6 q7 t0 t1 t2 t3 t4 t5 t6 t7
        have s1 : oCmp R (add8 a c) a ≥ 0 := hs.out
        generalize oCmp R (add8 a c) a = s at *
        go_wp2
        go_ret
        exact ⟨rfl, hEw.out⟩
end Go.Proofs.Yteefhmdameeoaaa
