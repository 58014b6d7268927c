/-
  The comparison of an order, as a plain function: a total order that is kept by addition.
-/
import Derived.Test.YteefhmdameeoaaaGreatP5
import Derived.WalkKit
import Derived.WalkSpells
import Derived.WalkLawsBesides
import Derived.BigQuiet
import Derived.Deep.QuietTactic
import Derived.Laws.AppendOwnNone
import Derived.Deep.RegionHeld3
import Derived.Deep.DeepCutAuto
import Derived.Deep.CutBlock
import Derived.Deep.LoopGhost
import Derived.ChangeKeysEq
import Derived.RegionTactic
import Derived.ChangeAlike
import Derived.Deep.Cut
set_option linter.unusedSimpArgs false
set_option linter.unusedVariables false
namespace Go.Proofs.YteefhmdameeoaaaGreat
open Go.RowKit

def sub8 (a b : Nat → Int) (i : Nat) : Int := a i - b i
/-- The sign of the first number that is not 0, of n numbers from k on. -/
def sgnTo (d : Nat → Int) : Nat → Nat → Int
  | _, 0 => 0
  | k, n + 1 => if d k = 0 then sgnTo d (k + 1) n else if d k < 0 then -1 else 1
def dotOf (r d : Nat → Int) : Int := sumTo (fun i => r i * d i) 8
/-- The sign of a difference in an order. -/
def oSgn : List (Nat → Int) → (Nat → Int) → Int
  | [], d => sgnTo d 0 8
  | r :: R, d => if dotOf r d < 0 then -1 else if 0 < dotOf r d then 1 else oSgn R d

theorem lexTo_sgn (a b : Nat → Int) : ∀ (n k : Nat), lexTo a b k n = sgnTo (sub8 a b) k n
  | 0, _ => rfl
  | n + 1, k => by
    rw [lexTo, sgnTo, lexTo_sgn a b n (k + 1)]
    have e : sub8 a b k = a k - b k := rfl
    generalize sub8 a b k = d at *
    by_cases h : a k = b k
    · rw [if_pos h, if_pos (by omega)]
    · by_cases h1 : a k < b k
      · simp only [if_neg h, if_pos h1]; rw [if_neg (by omega), if_pos (by omega)]
      · simp only [if_neg h, if_neg h1]; rw [if_neg (by omega), if_neg (by omega)]
theorem oCmp_sgn (a b : Nat → Int) : ∀ R : List (Nat → Int), oCmp R a b = oSgn R (sub8 a b)
  | [] => by rw [oCmp, cmpRows, if_pos rfl]; exact lexTo_sgn a b 8 0
  | r :: R => by
    have ih := oCmp_sgn a b R
    unfold oCmp at ih ⊢
    rw [cmpRows, oSgn, ← ih]
    show (if (if dotTo r a b 8 < 0 then _ else _) = 0 then _ else _) = if dotTo r a b 8 < 0 then _ else if 0 < dotTo r a b 8 then _ else _
    by_cases h1 : dotTo r a b 8 < 0
    · simp only [if_pos h1]; rw [if_neg (by omega)]
    · simp only [if_neg h1]
      by_cases h2 : 0 < dotTo r a b 8
      · simp only [if_pos h2]; rw [if_neg (by omega)]
      · simp only [if_neg h2]

theorem sumTo_add (a b : Nat → Int) : ∀ k, sumTo (fun i => a i + b i) k = sumTo a k + sumTo b k
  | 0 => rfl
  | k + 1 => by simp only [sumTo, sumTo_add a b k]; omega
theorem sumTo_neg (a : Nat → Int) : ∀ k, sumTo (fun i => -(a i)) k = -(sumTo a k)
  | 0 => rfl
  | k + 1 => by simp only [sumTo, sumTo_neg a k]; omega
theorem sumTo_congr {a b : Nat → Int} : ∀ {k : Nat}, (∀ i, i < k → a i = b i) → sumTo a k = sumTo b k
  | 0, _ => rfl
  | k + 1, h => by rw [sumTo, sumTo, sumTo_congr fun i hi => h i (by omega), h k (by omega)]
theorem dotOf_add (r d e : Nat → Int) : dotOf r (add8 d e) = dotOf r d + dotOf r e := by
  unfold dotOf
  rw [← sumTo_add]
  exact sumTo_congr fun i _ => by simp only [add8, Int.mul_add]
theorem dotOf_neg (r d : Nat → Int) : dotOf r (fun i => -(d i)) = -(dotOf r d) := by
  unfold dotOf
  rw [← sumTo_neg]
  exact sumTo_congr fun i _ => by rw [Int.mul_neg]
theorem dotOf_congr {r d e : Nat → Int} (h : ∀ i, i < 8 → d i = e i) : dotOf r d = dotOf r e := sumTo_congr fun i hi => by rw [h i hi]
theorem sgnTo_congr {d e : Nat → Int} : ∀ (n k : Nat), (∀ i, k ≤ i → i < k + n → d i = e i) → sgnTo d k n = sgnTo e k n
  | 0, _, _ => rfl
  | n + 1, k, h => by rw [sgnTo, sgnTo, h k (by omega) (by omega), sgnTo_congr n (k + 1) fun i h1 h2 => h i (by omega) (by omega)]
theorem oSgn_congr {d e : Nat → Int} (h : ∀ i, i < 8 → d i = e i) : ∀ R : List (Nat → Int), oSgn R d = oSgn R e
  | [] => sgnTo_congr 8 0 fun i _ hi => h i (by omega)
  | r :: R => by rw [oSgn, oSgn, dotOf_congr h, oSgn_congr h R]
theorem sgnTo_val (d : Nat → Int) : ∀ (n k : Nat), sgnTo d k n = -1 ∨ sgnTo d k n = 0 ∨ sgnTo d k n = 1
  | 0, _ => .inr (.inl rfl)
  | n + 1, k => by
    rw [sgnTo]
    split
    · exact sgnTo_val d n (k + 1)
    · split
      · exact .inl rfl
      · exact .inr (.inr rfl)
theorem oSgn_val (d : Nat → Int) : ∀ R : List (Nat → Int), oSgn R d = -1 ∨ oSgn R d = 0 ∨ oSgn R d = 1
  | [] => sgnTo_val d 8 0
  | r :: R => by
    rw [oSgn]
    split
    · exact .inl rfl
    · split
      · exact .inr (.inr rfl)
      · exact oSgn_val d R
theorem sgnTo_neg (d : Nat → Int) : ∀ (n k : Nat), sgnTo (fun i => -(d i)) k n = -(sgnTo d k n)
  | 0, _ => rfl
  | n + 1, k => by
    simp only [sgnTo]
    rw [sgnTo_neg d n (k + 1)]
    by_cases h : d k = 0
    · rw [if_pos h, if_pos (by omega)]
    · rw [if_neg h, if_neg (by omega)]
      by_cases h1 : d k < 0
      · rw [if_pos h1, if_neg (by omega)]; rfl
      · rw [if_neg h1, if_pos (by omega)]
theorem oSgn_neg (d : Nat → Int) : ∀ R : List (Nat → Int), oSgn R (fun i => -(d i)) = -(oSgn R d)
  | [] => sgnTo_neg d 8 0
  | r :: R => by
    simp only [oSgn]
    rw [dotOf_neg, oSgn_neg d R]
    by_cases h : dotOf r d < 0
    · rw [if_pos h, if_neg (by omega), if_pos (by omega)]; rfl
    · rw [if_neg h]
      by_cases h1 : 0 < dotOf r d
      · rw [if_pos h1, if_pos (by omega)]
      · rw [if_neg h1, if_neg (by omega), if_neg (by omega)]
theorem sgnTo_zero {d : Nat → Int} : ∀ (n k : Nat), sgnTo d k n = 0 → ∀ i, k ≤ i → i < k + n → d i = 0
  | 0, _, _, i, h1, h2 => by omega
  | n + 1, k, h, i, h1, h2 => by
    rw [sgnTo] at h
    split at h
    · rename_i h0
      by_cases e : i = k
      · rw [e]; exact h0
      · exact sgnTo_zero n (k + 1) h i (by omega) (by omega)
    · split at h <;> omega
theorem oSgn_zero {d : Nat → Int} : ∀ {R : List (Nat → Int)}, oSgn R d = 0 → ∀ i, i < 8 → d i = 0
  | [], h, i, hi => sgnTo_zero 8 0 h i (by omega) (by omega)
  | r :: R, h, i, hi => by
    rw [oSgn] at h
    split at h
    · omega
    · split at h
      · omega
      · exact oSgn_zero h i hi
/-- Not negative together: the sum is not negative, and positive if one is. -/
theorem sgnTo_add {d e : Nat → Int} : ∀ (n k : Nat), 0 ≤ sgnTo d k n → 0 ≤ sgnTo e k n → (0 ≤ sgnTo (add8 d e) k n ∧ (0 < sgnTo d k n ∨ 0 < sgnTo e k n → 0 < sgnTo (add8 d e) k n))
  | 0, _, _, _ => ⟨by simp [sgnTo], by simp [sgnTo]⟩
  | n + 1, k, h1, h2 => by
    rw [sgnTo] at h1 h2
    simp only [sgnTo]
    have ha : add8 d e k = d k + e k := rfl
    by_cases hd : d k = 0
    · rw [if_pos hd] at h1 ⊢
      by_cases he : e k = 0
      · rw [if_pos he] at h2 ⊢
        rw [if_pos (by omega)]
        exact sgnTo_add n (k + 1) h1 h2
      · rw [if_neg he] at h2 ⊢
        by_cases he' : e k < 0
        · rw [if_pos he'] at h2; omega
        · rw [if_neg he', if_neg (by omega), if_neg (by omega)]; exact ⟨by omega, fun _ => by omega⟩
    · rw [if_neg hd] at h1 ⊢
      by_cases hd' : d k < 0
      · rw [if_pos hd'] at h1; omega
      · by_cases he : e k = 0
        · rw [if_pos he, if_neg hd', if_neg (by omega), if_neg (by omega)]; exact ⟨by omega, fun _ => by omega⟩
        · rw [if_neg he] at h2 ⊢
          by_cases he' : e k < 0
          · rw [if_pos he'] at h2; omega
          · rw [if_neg hd', if_neg he', if_neg (by omega), if_neg (by omega)]; exact ⟨by omega, fun _ => by omega⟩
theorem oSgn_add {d e : Nat → Int} : ∀ {R : List (Nat → Int)}, 0 ≤ oSgn R d → 0 ≤ oSgn R e → (0 ≤ oSgn R (add8 d e) ∧ (0 < oSgn R d ∨ 0 < oSgn R e → 0 < oSgn R (add8 d e)))
  | [], h1, h2 => sgnTo_add 8 0 h1 h2
  | r :: R, h1, h2 => by
    rw [oSgn] at h1 h2
    simp only [oSgn]
    rw [dotOf_add]
    by_cases a1 : dotOf r d < 0
    · rw [if_pos a1] at h1; omega
    · by_cases b1 : dotOf r e < 0
      · rw [if_pos b1] at h2; omega
      · rw [if_neg a1] at h1 ⊢
        rw [if_neg b1] at h2 ⊢
        rw [if_neg (by omega)]
        by_cases a2 : 0 < dotOf r d
        · rw [if_pos a2, if_pos (by omega)]; exact ⟨by omega, fun _ => by omega⟩
        · rw [if_neg a2] at h1 ⊢
          by_cases b2 : 0 < dotOf r e
          · rw [if_pos b2, if_pos (by omega)]; exact ⟨by omega, fun _ => by omega⟩
          · rw [if_neg b2] at h2 ⊢
            rw [if_neg (by omega)]
            exact oSgn_add h1 h2

theorem oCmp_val (R : List (Nat → Int)) (a b : Nat → Int) : oCmp R a b = -1 ∨ oCmp R a b = 0 ∨ oCmp R a b = 1 := by
  rw [oCmp_sgn]; exact oSgn_val _ _
theorem oCmp_neg (R : List (Nat → Int)) (a b : Nat → Int) : oCmp R b a = -(oCmp R a b) := by
  rw [oCmp_sgn, oCmp_sgn, ← oSgn_neg]
  exact oSgn_congr (fun i _ => by simp only [sub8]; omega) R
theorem oCmp_zero {R : List (Nat → Int)} {a b : Nat → Int} : oCmp R a b = 0 ↔ ∀ i, i < 8 → a i = b i := by
  constructor
  · intro h i hi
    rw [oCmp_sgn] at h
    have := oSgn_zero h i hi
    simp only [sub8] at this
    omega
  · intro h; exact oCmp_eq h R
theorem oCmp_trans {R : List (Nat → Int)} {a b c : Nat → Int} (h1 : 0 ≤ oCmp R a b) (h2 : 0 ≤ oCmp R b c) : 0 ≤ oCmp R a c ∧ (0 < oCmp R a b ∨ 0 < oCmp R b c → 0 < oCmp R a c) := by
  rw [oCmp_sgn] at h1 h2
  rw [oCmp_sgn a c R, oCmp_sgn a b R, oCmp_sgn b c R]
  rw [oSgn_congr (d := sub8 a c) (e := add8 (sub8 a b) (sub8 b c)) (fun i _ => by simp only [sub8, add8]; omega) R]
  exact oSgn_add h1 h2
theorem oCmp_congr {R : List (Nat → Int)} {a b a' b' : Nat → Int} (h1 : ∀ i, i < 8 → a i = a' i) (h2 : ∀ i, i < 8 → b i = b' i) : oCmp R a b = oCmp R a' b' := by
  rw [oCmp_sgn, oCmp_sgn]
  exact oSgn_congr (fun i hi => by simp only [sub8, h1 i hi, h2 i hi]) R
theorem oCmp_add (R : List (Nat → Int)) (a b c : Nat → Int) : oCmp R (add8 a c) (add8 b c) = oCmp R a b := by
  rw [oCmp_sgn, oCmp_sgn]
  exact oSgn_congr (fun i _ => by simp only [sub8, add8]; omega) R

end Go.Proofs.YteefhmdameeoaaaGreat
