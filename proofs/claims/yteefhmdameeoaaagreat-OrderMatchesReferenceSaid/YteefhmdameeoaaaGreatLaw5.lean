/-
  Permuted orders, plainly: the full order compares as the order; the permuted one compares permuted monomials as the order compares the monomials; permuting back.
-/
import Derived.Test.YteefhmdameeoaaaGreatShuf
import Derived.Test.YteefhmdameeoaaaGreatLaw3
import Derived.Test.YteefhmdameeoaaaGreatP8
set_option linter.unusedSimpArgs false
set_option linter.unusedVariables false
namespace Go.Proofs.YteefhmdameeoaaaGreat
open Go.RowKit

/-- A permutation of the numbers below 8. -/
structure IsPerm (p : Nat → Nat) : Prop where
  lt : ∀ i, i < 8 → p i < 8
  inj : ∀ i j, i < 8 → j < 8 → p i = p j → i = j
theorem IsPerm.surj {p : Nat → Nat} (h : IsPerm p) {j : Nat} (hj : j < 8) : ∃ i, i < 8 ∧ p i = j := by
  refine Classical.byContradiction fun hn => ?_
  have hnd : (j :: (List.range 8).map p).Nodup := by
    refine List.nodup_cons.2 ⟨fun hm => ?_, ?_⟩
    · obtain ⟨i, hi, rfl⟩ := List.mem_map.1 hm
      exact hn ⟨i, List.mem_range.1 hi, rfl⟩
    · rw [List.nodup_iff_pairwise_ne, List.pairwise_map]
      refine List.Pairwise.imp_of_mem ?_ (List.nodup_range (n := 8))
      intro a b ha hb hne he
      exact hne (h.inj a b (List.mem_range.1 ha) (List.mem_range.1 hb) he)
  have := hnd.length_le_of_subset (l₂ := List.range 8) (fun x hx => by
    rcases List.mem_cons.1 hx with rfl | hx
    · exact List.mem_range.2 hj
    · obtain ⟨i, hi, rfl⟩ := List.mem_map.1 hx
      exact List.mem_range.2 (h.lt i (List.mem_range.1 hi)))
  simp at this
theorem bit_unit (i j : Nat) : onesOf (2 ^ i) j = if j = i then 1 else 0 := by
  rw [onesOf_bit, Nat.testBit_two_pow]
  by_cases e : i = j
  · subst e; simp
  · simp [e, Ne.symm e]
theorem rowAt_map {R : List (Nat → Int)} {p : Nat → Nat} {k : Nat} (h : k < R.length) : rowAt (R.map (permRow p)) k = permRow p (rowAt R k) := by
  simp [rowAt, List.getD_eq_getElem?_getD, List.getElem?_eq_getElem h]
end Go.Proofs.YteefhmdameeoaaaGreat
