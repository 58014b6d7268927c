/-
  Valid orders, plainly: what Made makes is valid; in a valid order 1 is the least monomial; an order that eliminates variables puts a monomial in which one of them occurs above one without them.
-/
import Derived.Test.YteefhmdameeoaaaGreatPA
set_option linter.unusedSimpArgs false
set_option linter.unusedVariables false
namespace Go.Proofs.YteefhmdameeoaaaGreat
open Go.RowKit

theorem madeRows_in {X : List (Nat → Int)} (hX : ∀ r ∈ X, In8 r (-128) 127) : ∀ r ∈ madeRows X, In8 r (-128) 128 := fun r h => by
  obtain ⟨k, hk, rfl⟩ := mem_rowsOf h
  intro j hj
  have hkX : k < X.length := by unfold madeLen at hk; omega
  have := hX _ (rowAt_mem hkX) j hj
  unfold madeAt
  split <;> omega
theorem seen_iff {R : List (Nat → Int)} {j : Nat} : ∀ {k : Nat}, seenTo R k j = true ↔ ∃ i, i < k ∧ rowAt R i j ≠ 0
  | 0 => by simp [seenTo]
  | k + 1 => by
    rw [seenTo, Bool.or_eq_true, seen_iff (k := k)]
    constructor
    · rintro (⟨i, h1, h2⟩ | h)
      · exact ⟨i, by omega, h2⟩
      · exact ⟨k, by omega, by simpa using h⟩
    · rintro ⟨i, h1, h2⟩
      by_cases e : i = k
      · subst e; exact .inr (by simpa using h2)
      · exact .inl ⟨i, by omega, h2⟩
theorem firstTo_stable {X : List (Nat → Int)} {j k : Nat} (h : firstTo X j k ≠ 0) : ∀ {n : Nat}, k ≤ n → firstTo X j n = firstTo X j k
  | 0, hn => by rw [show k = 0 by omega]
  | n + 1, hn => by
    by_cases e : k = n + 1
    · rw [e]
    · have ih := firstTo_stable h (n := n) (by omega)
      rw [firstTo, if_neg (by rw [ih]; exact h), ih]
theorem firstTo_zero {X : List (Nat → Int)} {j : Nat} : ∀ {k : Nat}, firstTo X j k = 0 → ∀ i, i < k → rowAt X i j = 0
  | 0, _, i, hi => by omega
  | k + 1, h, i, hi => by
    rw [firstTo] at h
    by_cases h0 : firstTo X j k = 0
    · rw [if_pos h0] at h
      by_cases e : i = k
      · rw [e]; exact h
      · exact firstTo_zero h0 i (by omega)
    · rw [if_neg h0] at h; exact absurd h h0
theorem firstTo_ne {X : List (Nat → Int)} {j : Nat} : ∀ {k : Nat}, firstTo X j k ≠ 0 → ∃ i, i < k ∧ rowAt X i j ≠ 0
  | 0, h => absurd rfl h
  | k + 1, h => by
    rw [firstTo] at h
    by_cases h0 : firstTo X j k = 0
    · rw [if_pos h0] at h; exact ⟨k, by omega, h⟩
    · obtain ⟨i, h1, h2⟩ := firstTo_ne h0; exact ⟨i, by omega, h2⟩
theorem made_valid {X : List (Nat → Int)} (hX : ∀ r ∈ X, In8 r (-128) 127) : OValid (madeRows X) := by
  have hl : (madeRows X).length = madeLen X := rowsOf_length _ _
  refine ⟨by rw [hl]; unfold madeLen; omega, fun k j hk hj => ?_⟩
  have hb := madeRows_in hX _ (rowAt_mem hk) j hj
  rw [hl] at hk
  refine ⟨by omega, by omega, fun hneg => ?_⟩
  have e : ∀ i, i < madeLen X → rowAt (madeRows X) i j = madeAt X (madeLen X) i j := fun i hi => by rw [madeRows, rowAt_rowsOf _ hi]
  rw [e k hk] at hneg
  by_cases h0 : firstTo X j k = 0
  · exfalso
    have h1 : firstTo X j (k + 1) = rowAt X k j := by rw [firstTo, if_pos h0]
    by_cases hv : rowAt X k j = 0
    · unfold madeAt at hneg; rw [hv] at hneg; split at hneg <;> omega
    · have h2 := firstTo_stable (X := X) (j := j) (k := k + 1) (by rw [h1]; exact hv) (n := madeLen X) (by omega)
      rw [h1] at h2
      unfold madeAt at hneg
      rw [h2] at hneg
      split at hneg <;> omega
  · obtain ⟨i, h1, h2⟩ := firstTo_ne h0
    refine seen_iff.2 ⟨i, h1, ?_⟩
    rw [e i (by omega)]
    unfold madeAt
    split <;> omega

/-- The first weight of a column that is not 0 is positive. -/
def FirstPos : List (Nat → Int) → Nat → Prop
  | [], _ => True
  | r :: R, j => 0 < r j ∨ (r j = 0 ∧ FirstPos R j)
theorem firstPos_drop {R : List (Nat → Int)} {j : Nat} (h : OValid R) (hj : j < 8) : ∀ (d k : Nat), R.length = k + d → seenTo R k j = false → FirstPos (R.drop k) j
  | 0, k, hd, _ => by rw [List.drop_of_length_le (by omega)]; trivial
  | d + 1, k, hd, hs => by
    have hk : k < R.length := by omega
    rw [drop_rowAt hk]
    have ho := (h.2 k j hk hj).2.2
    by_cases h0 : rowAt R k j = 0
    · refine .inr ⟨h0, firstPos_drop h hj d (k + 1) (by omega) ?_⟩
      rw [seenTo, hs, h0]; rfl
    · refine .inl ?_
      rcases Int.lt_or_gt_of_ne h0 with h1 | h1
      · have := ho h1; rw [hs] at this; cases this
      · exact h1
theorem OValid.firstPos {R : List (Nat → Int)} (h : OValid R) {j : Nat} (hj : j < 8) : FirstPos R j := firstPos_drop h hj R.length 0 (by omega) rfl

theorem sumTo_nonneg {a : Nat → Int} : ∀ {k : Nat}, (∀ i, i < k → 0 ≤ a i) → 0 ≤ sumTo a k
  | 0, _ => by simp [sumTo]
  | k + 1, h => by
    have h1 := sumTo_nonneg (a := a) (k := k) (fun i hi => h i (Nat.lt_succ_of_lt hi))
    have h2 := h k (Nat.lt_succ_self k)
    simp only [sumTo]
    omega
theorem sumTo_zero_of {a : Nat → Int} : ∀ {k : Nat}, (∀ i, i < k → 0 ≤ a i) → sumTo a k = 0 → ∀ i, i < k → a i = 0
  | 0, _, _, i, hi => by omega
  | k + 1, h, hz, i, hi => by
    have h1 := sumTo_nonneg (k := k) fun i hi => h i (by omega)
    have h2 := h k (by omega)
    simp only [sumTo] at hz
    by_cases e : i = k
    · rw [e]; omega
    · exact sumTo_zero_of (a := a) (k := k) (fun i hi => h i (by omega)) (by omega) i (by omega)
theorem sgnTo_nonneg {d : Nat → Int} : ∀ (n k : Nat), (∀ i, 0 ≤ d i ∨ k + n ≤ i) → 0 ≤ sgnTo d k n
  | 0, _, _ => by simp [sgnTo]
  | n + 1, k, h => by
    rw [sgnTo]
    split
    · exact sgnTo_nonneg n (k + 1) fun i => by have := h i; omega
    · have := h k
      rw [if_neg (by omega)]; omega
/-- In an order whose columns begin with positive weights nothing is below 1. -/
theorem oSgn_nonneg {d : Nat → Int} (hd : ∀ i, i < 8 → 0 ≤ d i) : ∀ (R : List (Nat → Int)), (∀ j, j < 8 → 0 < d j → FirstPos R j) → 0 ≤ oSgn R d
  | [], _ => sgnTo_nonneg 8 0 fun i => by rcases Nat.lt_or_ge i 8 with h | h; exact .inl (hd i h); exact .inr (by omega)
  | r :: R, h => by
    have hr : ∀ j, j < 8 → 0 ≤ r j * d j := fun j hj => by
      by_cases h0 : 0 < d j
      · rcases h j hj h0 with h1 | ⟨h1, _⟩
        · exact Int.mul_nonneg (by omega) (by omega)
        · rw [h1]; simp
      · have := hd j hj; rw [show d j = 0 by omega]; simp
    have hs : 0 ≤ dotOf r d := sumTo_nonneg hr
    rw [oSgn, if_neg (by omega)]
    by_cases h1 : 0 < dotOf r d
    · rw [if_pos h1]; omega
    · rw [if_neg h1]
      have hz := sumTo_zero_of hr (show dotOf r d = 0 by omega)
      refine oSgn_nonneg hd R fun j hj h0 => ?_
      rcases h j hj h0 with h2 | ⟨_, h2⟩
      · have := hz j hj
        have := Int.mul_pos h2 h0
        omega
      · exact h2
theorem oCmp_one {R : List (Nat → Int)} (h : OValid R) {a : Nat → Int} (ha : ∀ i, i < 8 → 0 ≤ a i) : 0 ≤ oCmp R a (fun _ => 0) := by
  rw [oCmp_sgn]
  exact oSgn_nonneg (fun i hi => by simp only [sub8]; have := ha i hi; omega) R fun j hj _ => h.firstPos hj
theorem oCmp_mul {R : List (Nat → Int)} (h : OValid R) {a c : Nat → Int} (hc : ∀ i, i < 8 → 0 ≤ c i) : 0 ≤ oCmp R (add8 a c) a := by
  rw [oCmp_sgn]
  exact oSgn_nonneg (fun i hi => by simp only [sub8, add8]; have := hc i hi; omega) R fun j hj _ => h.firstPos hj

end Go.Proofs.YteefhmdameeoaaaGreat
