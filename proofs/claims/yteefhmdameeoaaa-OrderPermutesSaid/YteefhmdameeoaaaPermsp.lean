/-
  The statement OrderPermutes holds: for every input the law returns true and the arguments read afterwards as they read before. No condition.
-/
import Derived.Test.YteefhmdameeoaaaPerms
import Derived.Test.YteefhmdameeoaaaBridge2
set_option linter.unusedSimpArgs false
set_option linter.unusedVariables false
namespace Go.Proofs.Yteefhmdameeoaaa
open Go.ChangeShapes Go.WideShapes Go.ChangeAt Go.RowKit Go.Deep Go.Joins

set_option maxRecDepth 100000 in
theorem perms_lifted (os : Os) (started : os.Started) (H : Type) (enc : TypeId × Value → H) :
    ReturnsInHanded {} Try.checked os 7 .any (Rows.orderPermutesSpec.pre6 enc Try.prog Try.f7 Rows.orderPermutesRow.domain false) (Rows.orderPermutesSpec.post enc Try.prog Try.f7 false true false false) := by
  refine returnsInHanded_of_change (C := Try.checked) own started (by kernel_rfl) Try.func7
    (ChangeSpec.witness6 (enc := enc) (C := Try.checked) false ⟨#[], #[.agg #[.slice none 0 0], .agg #[.int .u16 0, .int .u16 0, .int .u16 0, .int .u16 0, .int .u16 0, .int .u16 0, .int .u16 0, .int .u16 0, .int .u16 0, .int .u16 0, .int .u16 0, .int .u16 0, .int .u16 0, .int .u16 0, .int .u16 0, .int .u16 0], .int .u16 0], []⟩ 8 (by kernel_rfl) (by kernel_rfl) (by kernel_rfl) (by kernel_rfl)) ?_
  intro W base args ds gs before hval0 hW hcnd _
  have hval : ∀ (j : Nat) t v, Try.f7.params[j]? = some t → args[j]? = some v → Value.okWide Try.prog W .any base t v := hval0
  have hW' := hW
  obtain ⟨p, q, hA0, hV, rfl, hfz, hnd⟩ := hW
  have hA : DataW.TrodAll enc Try.prog W 0 (fun _ => true) true Try.f7.params.toList args.toList ds p := hA0
  rw [Try.params7] at hA hval
  obtain ⟨v0, vs0, d0, ds0, p0, q0, hargs, rfl, rfl, h0, r0⟩ := trodAll_cons hA
  obtain ⟨v1, vs1, d1, ds1, p1, q1, rfl, rfl, rfl, h1, r1⟩ := trodAll_cons r0
  obtain ⟨v2, vs2, d2, ds2, p2, q2, rfl, rfl, rfl, h2, r2⟩ := trodAll_cons r1
  obtain ⟨rfl, rfl, rfl⟩ := trodAll_nil r2
  obtain rfl : args = #[v0, v1, v2] := by cases args; simp_all
  obtain ⟨rfl, rfl⟩ := trodVars_none hV
  have k0 := h0
  have lt0 : ∀ x ∈ p0, x.block < W.heap.size := by obtain ⟨m, hm⟩ := k0; exact DataW.trod_lt m _ _ _ hm
  have k1 := h1
  have lt1 : ∀ x ∈ p1, x.block < W.heap.size := by obtain ⟨m, hm⟩ := k1; exact DataW.trod_lt m _ _ _ hm
  have k2 := h2
  have lt2 : ∀ x ∈ p2, x.block < W.heap.size := by obtain ⟨m, hm⟩ := k2; exact DataW.trod_lt m _ _ _ hm
  obtain ⟨c0, X0, rfl, hX0, hXw0⟩ : ∃ c X, v0 = .agg #[c] ∧ RowsIn .i8 W c X ∧ ∀ r ∈ X, ∀ j, j < 8 → (Lit.int .i8 (r j)).wf = true := by
    obtain ⟨c0, y0, n, rfl, hy'⟩ := open_agg1 Try.underlying24 (by kernel_rfl) (by kernel_rfl) (hval 0 24 v0 rfl rfl) h0
    obtain ⟨X, hX1, hX2⟩ := rowsIn_of Try.underlying22 Try.underlying68 Try.underlying67 (by kernel_rfl) (by kernel_rfl) hy'
    exact ⟨c0, X, rfl, hX1, hX2⟩
  obtain ⟨R1, rfl, hRw1⟩ : ∃ R : Nat → Nat → Int, v1 = .agg #[.int .u16 (R 0 0), .int .u16 (R 0 1), .int .u16 (R 0 2), .int .u16 (R 0 3), .int .u16 (R 0 4), .int .u16 (R 0 5), .int .u16 (R 0 6), .int .u16 (R 0 7), .int .u16 (R 1 0), .int .u16 (R 1 1), .int .u16 (R 1 2), .int .u16 (R 1 3), .int .u16 (R 1 4), .int .u16 (R 1 5), .int .u16 (R 1 6), .int .u16 (R 1 7)] ∧ ∀ i j, i < 2 → j < 8 → (Lit.int .u16 (R i j)).wf = true := by
    obtain ⟨cs, rfl, hsz⟩ := okWide_array Try.underlying42 (hval 1 42 v1 rfl rfl)
    obtain ⟨fuel, hf⟩ := h1
    obtain ⟨R, hR1, hR2⟩ := arr8s_of Try.underlying42 Try.underlying41 Try.underlying39 (by kernel_rfl) (by kernel_rfl) hf
    exact ⟨R, congrArg Value.agg (lit16 (hsz.trans (by kernel_rfl)) hR1), hR2⟩
  obtain ⟨n2, rfl, hn2, _, hw2⟩ := open_int Try.underlying39 (hval 2 39 v2 rfl rfl) h2
  obtain ⟨m2, rfl⟩ : ∃ m : Nat, n2 = (m : Int) := ⟨n2.toNat, by have := bounds_u16 hw2; omega⟩
  clear hA0 hval0
  refine (perms_walk c0 X0 (R1 0) (R1 1) m2 W hX0 (fun r hr j hj => by have := bounds_i8 (hXw0 r hr j hj); omega) (fun j hj => by have := bounds_u16 (hRw1 0 j (by omega) hj); omega) (fun j hj => by have := bounds_u16 (hRw1 1 j (by omega) hj); omega) (by have := bounds_u16 hw2; omega)).mono fun e W' ⟨he, bel⟩ => ?_
  subst he
  replace bel : Below W.heap.size W W' := bel
  exact ⟨_, rfl, _, _, _, [], _, [], hW', trodAll_mk1 (shut_bool Try.underlying4 _), (trodAll_cons_mk (Below.trod laidOut (by kernel_rfl) (of_decide_eq_true (by kernel_rfl)) k0 bel lt0) (trodAll_cons_mk (Below.trod laidOut (by kernel_rfl) (of_decide_eq_true (by kernel_rfl)) k1 bel lt1) (trodAll_cons_mk (Below.trod laidOut (by kernel_rfl) (of_decide_eq_true (by kernel_rfl)) k2 bel lt2) trodAll_mk0))), rfl, bel.frame _, fun h => by cases h⟩

theorem perms_over : Rows.orderPermutesRow.holds Try.pinned (OpenSpec.ofChange Rows.orderPermutesSpec) :=
  OpenClaim.holds_of_wide 7 Try.f7 rfl rfl rfl rfl rfl rfl rfl ⟨rfl, rfl, rfl, rfl, rfl⟩ rfl rfl rfl rfl rfl (by kernel_rfl) Try.func7 (by kernel_rfl)
    (of_decide_eq_true (by kernel_rfl)) (by unfold Func.isWrapper; first | (rw [if_pos (by decide +kernel)]; kernel_rfl) | (rw [if_neg (by decide +kernel)]; exact ⟨rfl, rfl⟩))
    (fun os started H enc _ => perms_lifted os started H enc)

theorem orderPermutes_holds : Rows.OrderPermutesSaid := perms_over
#print axioms orderPermutes_holds
end Go.Proofs.Yteefhmdameeoaaa
