/-
  Elimination, plainly: Eliminating eliminates its variables; the bits of a support; a monomial without some variables.
-/
import Derived.Test.YteefhmdameeoaaaLaw3
import Derived.Test.YteefhmdameeoaaaP8
set_option linter.unusedSimpArgs false
set_option linter.unusedVariables false
namespace Go.Proofs.Yteefhmdameeoaaa
open Go.RowKit

theorem elim_elim {m : Nat} (hm : m < 256) : Elim (onesOf m :: revRows) m := fun i j hi hj h1 h2 => by
  have hne : i ≠ j := fun e => by rw [e, h2] at h1; cases h1
  rw [oCmp_sgn, oSgn, dotOf_pow hi hj hne, onesOf_bit, onesOf_bit, h1, h2]
  simp
/-- A monomial without the variables of a mask. -/
def zeroTo (b : Nat → Int) (m k i : Nat) : Int := if i < k ∧ m.testBit i = true then 0 else b i
theorem zeroTo_skip {b : Nat → Int} {m k : Nat} (h : m.testBit k = false) : zeroTo b m (k + 1) = zeroTo b m k := funext fun i => by
  by_cases e : i = k
  · subst e; simp [zeroTo, h]
  · simp [zeroTo, show i < k + 1 ↔ i < k by omega]
theorem elim_cmp {R : List (Nat → Int)} {m : Nat} {a b : Nat → Int} (hR : OValid R) (he : Elim R m) (ha : ∀ i, i < 8 → 0 ≤ a i) (hs : ∃ i, i < 8 ∧ m.testBit i = true ∧ 0 < a i) : oCmp R a (zeroTo b m 8) = 1 := by
  rw [oCmp_sgn]
  refine elim_gt ha (fun i hi h => by simp [zeroTo, hi, h]) hs R hR.in8 (fun j hj _ => hR.firstPos hj) fun i j hi hj h1 _ h3 => ?_
  have := he i j hi hj h1 h3
  rwa [oCmp_sgn] at this
theorem bits_and_u8 (a b : Nat) (ha : a < 256) (hb : b < 256) : bits .and .u8 (a : Int) (b : Int) = ((a &&& b : Nat) : Int) := by
  have hx : a &&& b < 2 ^ 8 := Nat.and_lt_two_pow _ (by omega)
  have h1 : (BitVec.ofInt 8 (a : Int)).toNat = a := by
    rw [BitVec.ofInt_natCast, BitVec.toNat_ofNat]; exact Nat.mod_eq_of_lt (by omega)
  have h2 : (BitVec.ofInt 8 (b : Int)).toNat = b := by
    rw [BitVec.ofInt_natCast, BitVec.toNat_ofNat]; exact Nat.mod_eq_of_lt (by omega)
  show IntKind.u8.wrap ((BitVec.ofInt 8 (a : Int) &&& BitVec.ofInt 8 (b : Int)).toNat : Int) = _
  rw [BitVec.toNat_and, h1, h2, IntKind.wrap_u8]
  omega
theorem supp_of {a : Nat → Int} {m : Nat} (h : suppTo a 8 &&& m ≠ 0) : ∃ i, i < 8 ∧ m.testBit i = true ∧ 0 < a i := by
  obtain ⟨i, hi⟩ := Nat.exists_testBit_of_ne_zero h
  rw [Nat.testBit_and, Bool.and_eq_true] at hi
  have h8 : i < 8 := by
    by_cases h : i < 8
    · exact h
    · have h1 := Nat.testBit_lt_two_pow (x := suppTo a 8) (i := i) (Nat.lt_of_lt_of_le (suppTo_lt a 8) (Nat.pow_le_pow_right (by omega) (by omega)))
      rw [h1] at hi; cases hi.1
  refine ⟨i, h8, hi.2, ?_⟩
  have := suppTo_bit a 8 i h8
  rw [this] at hi
  simpa using hi.1

end Go.Proofs.Yteefhmdameeoaaa
