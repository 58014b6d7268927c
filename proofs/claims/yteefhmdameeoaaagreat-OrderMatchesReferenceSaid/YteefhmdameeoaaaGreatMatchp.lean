/-
  The statement OrderMatchesReference holds: for every input the law returns true and the arguments read afterwards as they read before. No condition.
-/
import Derived.Test.YteefhmdameeoaaaGreatMatch
import Derived.Test.YteefhmdameeoaaaGreatBridge2
set_option linter.unusedSimpArgs false
set_option linter.unusedVariables false
namespace Go.Proofs.YteefhmdameeoaaaGreat
open Go.ChangeShapes Go.WideShapes Go.ChangeAt Go.RowKit Go.Deep Go.Joins

/-- Numbers in an array read as such. -/
theorem arrN_of {H : Type} {enc : TypeId × Value → H} {P : Program} {w : World} {base : Nat} {spare : Nat → Bool} {held : Bool} {fuel N : Nat} {E I : TypeId} {κ : IntKind} {cs : List Value} {x : DataW H × List MemPlace} (hE : P.underlying E = some (.array N I)) (hI : P.underlying I = some (.int κ)) (hc : P.cellsOf I = 1) (hE8 : P.cellsOf E = N)
    (h : DataW.trod enc P w base spare held fuel E cs = some x) : ∃ a : Nat → Int, cs.length = N ∧ (∀ j, j < N → cs[j]? = some (.int κ (a j))) ∧ ∀ j, j < N → (Lit.int κ (a j)).wf = true := by
  obtain ⟨xs, m, _, _, hl, hx, hel⟩ := DataW.trod_array hE h
  rw [hE8] at hl
  have key : ∀ j, ∃ n : Int, j < N → cs[j]? = some (.int κ n) ∧ (Lit.int κ n).wf = true := fun j => by
    by_cases hj : j < N
    · have h1 := hel j hj
      rw [hc, Nat.mul_one] at h1
      have hxj : xs[j]? = some xs[j] := List.getElem?_eq_getElem (by omega)
      rw [hxj] at h1
      obtain ⟨n, h2, _, h3⟩ := DataW.trod_int hI h1
      refine ⟨n, fun _ => ⟨?_, h3⟩⟩
      have hd : (cs.drop j).take 1 = [cs[j]] := by rw [List.drop_eq_getElem_cons (by omega)]; rfl
      rw [hd] at h2
      have : cs[j] = .int κ n := by simpa using h2
      rw [List.getElem?_eq_getElem (by omega), this]
    · exact ⟨0, fun h => absurd h hj⟩
  refine ⟨fun j => (key j).choose, hl, fun j hj => ((key j).choose_spec hj).1, fun j hj => ((key j).choose_spec hj).2⟩
set_option maxRecDepth 100000 in
theorem match_lifted (os : Os) (started : os.Started) (H : Type) (enc : TypeId × Value → H) :
    ReturnsInHanded {} Tryz.checked os 3 .any (Rows.orderMatchesReferenceSpec.pre6 enc Tryz.prog Tryz.f3 Rows.orderMatchesReferenceRow.domain false) (Rows.orderMatchesReferenceSpec.post enc Tryz.prog Tryz.f3 false true false false) := by
  refine returnsInHanded_of_change (C := Tryz.checked) own started (by kernel_rfl) Tryz.func3
    (ChangeSpec.witness6 (enc := enc) (C := Tryz.checked) false ⟨#[], #[.agg #[.slice none 0 0], .slice none 0 0, .agg #[.int .u16 0, .int .u16 0]], []⟩ 8 (by kernel_rfl) (by kernel_rfl) (by kernel_rfl) (by kernel_rfl)) ?_
  intro W base args ds gs before hval0 hW hcnd _
  have hval : ∀ (j : Nat) t v, Tryz.f3.params[j]? = some t → args[j]? = some v → Value.okWide Tryz.prog W .any base t v := hval0
  have hW' := hW
  obtain ⟨p, q, hA0, hV, rfl, hfz, hnd⟩ := hW
  have hA : DataW.TrodAll enc Tryz.prog W 0 (fun _ => true) true Tryz.f3.params.toList args.toList ds p := hA0
  rw [Tryz.params3] at hA hval
  obtain ⟨v0, vs0, d0, ds0, p0, q0, hargs, rfl, rfl, h0, r0⟩ := trodAll_cons hA
  obtain ⟨v1, vs1, d1, ds1, p1, q1, rfl, rfl, rfl, h1, r1⟩ := trodAll_cons r0
  obtain ⟨v2, vs2, d2, ds2, p2, q2, rfl, rfl, rfl, h2, r2⟩ := trodAll_cons r1
  obtain ⟨rfl, rfl, rfl⟩ := trodAll_nil r2
  obtain rfl : args = #[v0, v1, v2] := by cases args; simp_all
  obtain ⟨rfl, rfl⟩ := trodVars_none hV
  have k0 := h0
  have lt0 : ∀ x ∈ p0, x.block < W.heap.size := by obtain ⟨m, hm⟩ := k0; exact DataW.trod_lt m _ _ _ hm
  have k1 := h1
  have lt1 : ∀ x ∈ p1, x.block < W.heap.size := by obtain ⟨m, hm⟩ := k1; exact DataW.trod_lt m _ _ _ hm
  have k2 := h2
  have lt2 : ∀ x ∈ p2, x.block < W.heap.size := by obtain ⟨m, hm⟩ := k2; exact DataW.trod_lt m _ _ _ hm
  obtain ⟨c0, X0, rfl, hX0, hXw0⟩ : ∃ c X, v0 = .agg #[c] ∧ RowsIn .i8 W c X ∧ ∀ r ∈ X, ∀ j, j < 8 → (Lit.int .i8 (r j)).wf = true := by
    obtain ⟨c0, y0, n, rfl, hy'⟩ := open_agg1 Tryz.underlying24 (by kernel_rfl) (by kernel_rfl) (hval 0 24 v0 rfl rfl) h0
    obtain ⟨X, hX1, hX2⟩ := rowsIn_of Tryz.underlying22 Tryz.underlying53 Tryz.underlying52 (by kernel_rfl) (by kernel_rfl) hy'
    exact ⟨c0, X, rfl, hX1, hX2⟩
  obtain ⟨a1, len1, cap1, rfl⟩ := okWide_slice Tryz.underlying25 (hval 1 25 v1 rfl rfl)
  obtain ⟨L1, hL1, hLw1⟩ : ∃ L, RowsIn .u16 W (.slice a1 len1 cap1) L ∧ ∀ r ∈ L, ∀ j, j < 8 → (Lit.int .u16 (r j)).wf = true := by
    obtain ⟨fuel, hf⟩ := h1
    exact rowsIn_of Tryz.underlying25 Tryz.underlying56 Tryz.underlying26 (by kernel_rfl) (by kernel_rfl) hf
  obtain ⟨x2, rfl, hxw2⟩ : ∃ x : Nat → Nat, v2 = .agg #[.int .u16 (x 0), .int .u16 (x 1)] ∧ ∀ j, j < 2 → (Lit.int .u16 (x j)).wf = true := by
    obtain ⟨cs, rfl, hsz⟩ := okWide_array Tryz.underlying27 (hval 2 27 v2 rfl rfl)
    obtain ⟨fuel, hf⟩ := h2
    obtain ⟨x, hl, hx, hw⟩ := arrN_of Tryz.underlying27 Tryz.underlying26 (by kernel_rfl) (by kernel_rfl) hf
    have hcs : cs = #[.int .u16 (x 0), .int .u16 (x 1)] := by
      apply Array.ext'
      apply List.ext_getElem?
      intro q
      by_cases hq : q < 2
      · obtain rfl | rfl : q = 0 ∨ q = 1 := by omega
        all_goals exact hx _ (by omega)
      · have h8 : cs.size = 2 := hsz.trans (by kernel_rfl)
        rw [List.getElem?_eq_none (by simpa [h8] using hq), List.getElem?_eq_none (by simpa using hq)]
    subst hcs
    have hnn : ∀ j, j < 2 → ((x j).toNat : Int) = x j := fun j hj => by have := bounds_u16 (hw j hj); omega
    exact ⟨fun j => (x j).toNat, by simp only [hnn 0 (by omega), hnn 1 (by omega)], fun j hj => by rw [hnn j hj]; exact hw j hj⟩
  clear hA0 hval0
  refine (match_walk c0 X0 (.slice a1 len1 cap1) L1 (x2 0) (x2 1) W hX0 (fun r hr j hj => by have := bounds_i8 (hXw0 r hr j hj); omega) hL1 (fun r hr j hj => by have := bounds_u16 (hLw1 r hr j hj); omega) (by have := bounds_u16 (hxw2 0 (by omega)); omega) (by have := bounds_u16 (hxw2 1 (by omega)); omega)).mono fun e W' ⟨he, bel⟩ => ?_
  subst he
  replace bel : Below W.heap.size W W' := bel
  exact ⟨_, rfl, _, _, _, [], _, [], hW', trodAll_mk1 (shut_bool Tryz.underlying4 _), (trodAll_cons_mk (Below.trod laidOut (by kernel_rfl) (of_decide_eq_true (by kernel_rfl)) k0 bel lt0) (trodAll_cons_mk (Below.trod laidOut (by kernel_rfl) (of_decide_eq_true (by kernel_rfl)) k1 bel lt1) (trodAll_cons_mk (Below.trod laidOut (by kernel_rfl) (of_decide_eq_true (by kernel_rfl)) k2 bel lt2) trodAll_mk0))), rfl, bel.frame _, fun h => by cases h⟩

theorem match_over : Rows.orderMatchesReferenceRow.holds Tryz.pinned (OpenSpec.ofChange Rows.orderMatchesReferenceSpec) :=
  OpenClaim.holds_of_wide 3 Tryz.f3 rfl rfl rfl rfl rfl rfl rfl ⟨rfl, rfl, rfl, rfl, rfl⟩ rfl rfl rfl rfl rfl (by kernel_rfl) Tryz.func3 (by kernel_rfl)
    (of_decide_eq_true (by kernel_rfl)) (by unfold Func.isWrapper; first | (rw [if_pos (by decide +kernel)]; kernel_rfl) | (rw [if_neg (by decide +kernel)]; exact ⟨rfl, rfl⟩))
    (fun os started H enc _ => match_lifted os started H enc)

theorem orderMatchesReference_holds : Rows.OrderMatchesReferenceSaid := match_over
#print axioms orderMatchesReference_holds
end Go.Proofs.YteefhmdameeoaaaGreat
