/-
  The statement OrderErrors holds: for every input the law returns true and the arguments read afterwards as they read before. No condition.
-/
import Derived.Test.YteefhmdameeoaaaGreatErrs
import Derived.Test.YteefhmdameeoaaaGreatBridge2
set_option linter.unusedSimpArgs false
set_option linter.unusedVariables false
namespace Go.Proofs.YteefhmdameeoaaaGreat
open Go.ChangeShapes Go.WideShapes Go.ChangeAt Go.RowKit Go.Deep Go.Joins

set_option maxRecDepth 100000 in
theorem errs_lifted (os : Os) (started : os.Started) (H : Type) (enc : TypeId × Value → H) :
    ReturnsInHanded {} Tryz.checked os 4 .any (Rows.orderErrorsSpec.pre6 enc Tryz.prog Tryz.f4 Rows.orderErrorsRow.domain false) (Rows.orderErrorsSpec.post enc Tryz.prog Tryz.f4 false true false false) := by
  refine returnsInHanded_of_change (C := Tryz.checked) own started (by kernel_rfl) Tryz.func4
    (ChangeSpec.witness6 (enc := enc) (C := Tryz.checked) false ⟨#[], #[.slice none 0 0, .agg #[.int .i64 0, .int .i64 0, .int .i64 0, .int .i64 0, .int .i64 0, .int .i64 0, .int .i64 0, .int .i64 0]], []⟩ 8 (by kernel_rfl) (by kernel_rfl) (by kernel_rfl) (by kernel_rfl)) ?_
  intro W base args ds gs before hval0 hW hcnd _
  have hval : ∀ (j : Nat) t v, Tryz.f4.params[j]? = some t → args[j]? = some v → Value.okWide Tryz.prog W .any base t v := hval0
  have hW' := hW
  obtain ⟨p, q, hA0, hV, rfl, hfz, hnd⟩ := hW
  have hA : DataW.TrodAll enc Tryz.prog W 0 (fun _ => true) true Tryz.f4.params.toList args.toList ds p := hA0
  rw [Tryz.params4] at hA hval
  obtain ⟨v0, vs0, d0, ds0, p0, q0, hargs, rfl, rfl, h0, r0⟩ := trodAll_cons hA
  obtain ⟨v1, vs1, d1, ds1, p1, q1, rfl, rfl, rfl, h1, r1⟩ := trodAll_cons r0
  obtain ⟨rfl, rfl, rfl⟩ := trodAll_nil r1
  obtain rfl : args = #[v0, v1] := by cases args; simp_all
  obtain ⟨rfl, rfl⟩ := trodVars_none hV
  have k0 := h0
  have lt0 : ∀ x ∈ p0, x.block < W.heap.size := by obtain ⟨m, hm⟩ := k0; exact DataW.trod_lt m _ _ _ hm
  have k1 := h1
  have lt1 : ∀ x ∈ p1, x.block < W.heap.size := by obtain ⟨m, hm⟩ := k1; exact DataW.trod_lt m _ _ _ hm
  obtain ⟨a0, len0, cap0, rfl⟩ := okWide_slice Tryz.underlying30 (hval 0 30 v0 rfl rfl)
  obtain ⟨L0, hL0, hLw0⟩ : ∃ L, RowsIn .i64 W (.slice a0 len0 cap0) L ∧ ∀ r ∈ L, ∀ j, j < 8 → (Lit.int .i64 (r j)).wf = true := by
    obtain ⟨fuel, hf⟩ := h0
    exact rowsIn_of Tryz.underlying30 Tryz.underlying35 Tryz.underlying3 (by kernel_rfl) (by kernel_rfl) hf
  obtain ⟨x1, rfl⟩ : ∃ x : Nat → Int, v1 = .agg #[.int .i64 (x 0), .int .i64 (x 1), .int .i64 (x 2), .int .i64 (x 3), .int .i64 (x 4), .int .i64 (x 5), .int .i64 (x 6), .int .i64 (x 7)] := by
    obtain ⟨cs, rfl, hsz⟩ := okWide_array Tryz.underlying35 (hval 1 35 v1 rfl rfl)
    obtain ⟨fuel, hf⟩ := h1
    obtain ⟨x, hl, hx, _⟩ := arr8_of Tryz.underlying35 Tryz.underlying3 (by kernel_rfl) (by kernel_rfl) hf
    refine ⟨x, congrArg Value.agg ?_⟩
    apply Array.ext'
    apply List.ext_getElem?
    intro q
    by_cases hq : q < 8
    · rcases lt8 hq with rfl | rfl | rfl | rfl | rfl | rfl | rfl | rfl <;> exact hx _ (by omega)
    · have h8 : cs.size = 8 := hsz.trans (by kernel_rfl)
      rw [List.getElem?_eq_none (by simpa [h8] using hq), List.getElem?_eq_none (by simpa using hq)]
  clear hA0 hval0
  refine (errs_walk (.slice a0 len0 cap0) L0 x1 W hL0).mono fun e W' ⟨he, bel⟩ => ?_
  subst he
  replace bel : Below W.heap.size W W' := bel
  exact ⟨_, rfl, _, _, _, [], _, [], hW', trodAll_mk1 (shut_bool Tryz.underlying4 _), (trodAll_cons_mk (Below.trod laidOut (by kernel_rfl) (of_decide_eq_true (by kernel_rfl)) k0 bel lt0) (trodAll_cons_mk (Below.trod laidOut (by kernel_rfl) (of_decide_eq_true (by kernel_rfl)) k1 bel lt1) trodAll_mk0)), rfl, bel.frame _, fun h => by cases h⟩

theorem errs_over : Rows.orderErrorsRow.holds Tryz.pinned (OpenSpec.ofChange Rows.orderErrorsSpec) :=
  OpenClaim.holds_of_wide 4 Tryz.f4 rfl rfl rfl rfl rfl rfl rfl ⟨rfl, rfl, rfl, rfl, rfl⟩ rfl rfl rfl rfl rfl (by kernel_rfl) Tryz.func4 (by kernel_rfl)
    (of_decide_eq_true (by kernel_rfl)) (by unfold Func.isWrapper; first | (rw [if_pos (by decide +kernel)]; kernel_rfl) | (rw [if_neg (by decide +kernel)]; exact ⟨rfl, rfl⟩))
    (fun os started H enc _ => errs_lifted os started H enc)

theorem orderErrors_holds : Rows.OrderErrorsSaid := errs_over
#print axioms orderErrors_holds
end Go.Proofs.YteefhmdameeoaaaGreat
