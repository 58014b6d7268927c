/-
  The named orders and elimination, plainly.
-/
import Derived.Test.YteefhmdameeoaaaGreatLaw2
set_option linter.unusedSimpArgs false
set_option linter.unusedVariables false
namespace Go.Proofs.YteefhmdameeoaaaGreat
open Go.RowKit

theorem all255 {i : Nat} (h : i < 8) : onesOf 255 i = 1 := by
  rcases lt8 h with rfl | rfl | rfl | rfl | rfl | rfl | rfl | rfl <;> decide
theorem dot_ones (a b : Nat → Int) : ∀ k, k ≤ 8 → dotTo (onesOf 255) a b k = sumTo a k - sumTo b k
  | 0, _ => rfl
  | k + 1, hk => by
    show dotTo (onesOf 255) a b k + onesOf 255 k * (a k - b k) = _
    rw [dot_ones a b k (by omega), all255 (by omega)]
    simp only [sumTo]
    omega
theorem dot_minus (a b : Nat → Int) (p : Nat) : ∀ k, dotTo (minusOne p) a b k = if p < k then b p - a p else 0
  | 0 => by simp [dotTo, sumTo]
  | k + 1 => by
    show dotTo (minusOne p) a b k + minusOne p k * (a k - b k) = _
    rw [dot_minus a b p k]
    by_cases e : k = p
    · subst e; rw [if_neg (by omega), if_pos (by omega)]; simp [minusOne]; omega
    · by_cases h : p < k
      · rw [if_pos h, if_pos (by omega)]; simp [minusOne, e]
      · rw [if_neg h, if_neg (by omega)]; simp [minusOne, e]
theorem oCmp_lex (a b : Nat → Int) : oCmp [] a b = lex8 a b := by simp [oCmp, cmpRows]
theorem ite3 (x y p q r : Int) : (if x - y < 0 then p else if 0 < x - y then q else r) = if x < y then p else if y < x then q else r := by
  by_cases h1 : x < y
  · rw [if_pos (show x - y < 0 by omega), if_pos h1]
  · rw [if_neg (show ¬ x - y < 0 by omega), if_neg h1]
    by_cases h2 : y < x
    · rw [if_pos (show 0 < x - y by omega), if_pos h2]
    · rw [if_neg (show ¬ 0 < x - y by omega), if_neg h2]
theorem oCmp_graded (a b : Nat → Int) : oCmp [onesOf 255] a b = if sumTo a 8 < sumTo b 8 then -1 else if sumTo b 8 < sumTo a 8 then 1 else lex8 a b := by
  have hc : cmpRows [onesOf 255] a b = if sumTo a 8 < sumTo b 8 then -1 else if sumTo b 8 < sumTo a 8 then 1 else 0 := by
    rw [cmpRows, dot_ones a b 8 (by omega), ite3]; rfl
  rw [oCmp, hc]
  by_cases h1 : sumTo a 8 < sumTo b 8
  · simp [h1]
  · by_cases h2 : sumTo b 8 < sumTo a 8
    · simp [h1, h2]
    · simp [h1, h2]
theorem revTail_last (a b : Nat → Int) : ∀ k, k ≤ 7 → (cmpRows (revTail k) a b ≠ 0 → lastTo a b (k + 1) = cmpRows (revTail k) a b) ∧ (cmpRows (revTail k) a b = 0 → (∀ i, 1 ≤ i → i ≤ k → a i = b i) ∧ lastTo a b (k + 1) = lastTo a b 1)
  | 0, _ => ⟨fun h => absurd rfl h, fun _ => ⟨fun i h1 h2 => by omega, rfl⟩⟩
  | k + 1, hk => by
    obtain ⟨h1, h2⟩ := revTail_last a b k (by omega)
    have hc : cmpRows (revTail (k + 1)) a b = if b (k + 1) - a (k + 1) < 0 then -1 else if 0 < b (k + 1) - a (k + 1) then 1 else cmpRows (revTail k) a b := by
      rw [revTail, cmpRows, dot_minus]
      simp only [show k + 1 < 8 by omega, if_true]
    have hl : lastTo a b (k + 1 + 1) = if a (k + 1) < b (k + 1) then 1 else if b (k + 1) < a (k + 1) then -1 else lastTo a b (k + 1) := rfl
    rw [hc, hl]
    by_cases c1 : b (k + 1) < a (k + 1)
    · rw [if_pos (by omega), if_neg (by omega), if_pos c1]
      exact ⟨fun _ => rfl, fun h => by omega⟩
    · rw [if_neg (show ¬ b (k + 1) - a (k + 1) < 0 by omega)]
      by_cases c2 : a (k + 1) < b (k + 1)
      · rw [if_pos (by omega), if_pos c2]
        exact ⟨fun _ => rfl, fun h => by omega⟩
      · rw [if_neg (by omega), if_neg c2, if_neg c1]
        refine ⟨h1, fun h => ⟨fun i h3 h4 => ?_, (h2 h).2⟩⟩
        by_cases e : i = k + 1
        · rw [e]; omega
        · exact (h2 h).1 i h3 (by omega)
theorem oCmp_rev (a b : Nat → Int) : oCmp revRows a b = if sumTo a 8 < sumTo b 8 then -1 else if sumTo b 8 < sumTo a 8 then 1 else lastTo a b 8 := by
  have hc : cmpRows revRows a b = if sumTo a 8 < sumTo b 8 then -1 else if sumTo b 8 < sumTo a 8 then 1 else cmpRows (revTail 7) a b := by
    rw [revRows, cmpRows, dot_ones a b 8 (by omega), ite3]
  rw [oCmp, hc]
  by_cases h1 : sumTo a 8 < sumTo b 8
  · simp [h1]
  · by_cases h2 : sumTo b 8 < sumTo a 8
    · simp [h1, h2]
    · simp only [if_neg h1, if_neg h2]
      obtain ⟨h3, h4⟩ := revTail_last a b 7 (by omega)
      by_cases hz : cmpRows (revTail 7) a b = 0
      · rw [if_pos hz]
        obtain ⟨h5, h6⟩ := h4 hz
        have h0 : a 0 = b 0 := by
          have e1 : sumTo a 8 = sumTo b 8 := by omega
          simp only [sumTo] at e1
          have := h5 1 (by omega) (by omega); have := h5 2 (by omega) (by omega); have := h5 3 (by omega) (by omega); have := h5 4 (by omega) (by omega); have := h5 5 (by omega) (by omega); have := h5 6 (by omega) (by omega); have := h5 7 (by omega) (by omega)
          omega
        rw [h6, lex8, lexTo_eq 8 0 fun i _ hi => by
          by_cases e : i = 0
          · rw [e]; exact h0
          · exact h5 i (by omega) (by omega)]
        simp [lastTo, h0]
      · rw [if_neg hz, h3 hz]

theorem dotOf_pow {r : Nat → Int} {i j : Nat} (hi : i < 8) (hj : j < 8) (hij : i ≠ j) (n : Int) : dotOf r (sub8 (powOf i 1) (powOf j n)) = r i - n * r j := by
  have key : ∀ k, sumTo (fun q => r q * sub8 (powOf i 1) (powOf j n) q) k = (if i < k then r i else 0) - (if j < k then n * r j else 0) := by
    intro k
    induction k with
    | zero => simp [sumTo]
    | succ k ih =>
      simp only [sumTo, ih]
      by_cases e1 : k = i
      · subst e1
        have : ¬ k = j := hij
        simp only [sub8, powOf, if_true, if_neg this, Int.sub_zero, Int.mul_one, Nat.lt_irrefl, if_false, Nat.lt_succ_self]
        by_cases h : j < k
        · rw [if_pos h, if_pos (by omega)]; omega
        · rw [if_neg h, if_neg (by omega)]; omega
      · by_cases e2 : k = j
        · subst e2
          simp only [sub8, powOf, if_true, if_neg e1, Nat.lt_irrefl, if_false, Nat.lt_succ_self]
          have : r k * (0 - n) = -(n * r k) := by rw [Int.zero_sub, Int.mul_neg, Int.mul_comm]
          rw [this]
          by_cases h : i < k
          · rw [if_pos h, if_pos (by omega)]; omega
          · rw [if_neg h, if_neg (by omega)]; omega
        · simp only [sub8, powOf, if_neg e1, if_neg e2, Int.sub_self, Int.mul_zero, Int.add_zero]
          have a1 : (i < k + 1) = (i < k) := by apply propext; omega
          have a2 : (j < k + 1) = (j < k) := by apply propext; omega
          simp only [a1, a2]
  rw [dotOf, key 8, if_pos hi, if_pos hj]
theorem sgn_pow {i j : Nat} (hi : i < 8) (hj : j < 8) (hij : i ≠ j) (h : 0 < sgnTo (sub8 (powOf i 1) (powOf j 65535)) 0 8) : i < j := by
  have key : ∀ (n k : Nat), k ≤ i → k ≤ j → k + n = 8 → 0 < sgnTo (sub8 (powOf i 1) (powOf j 65535)) k n → i < j := by
    intro n
    induction n with
    | zero => intro k h1 h2 h3 h4; simp [sgnTo] at h4
    | succ n ih =>
      intro k h1 h2 h3 h4
      rw [sgnTo] at h4
      by_cases e1 : k = i
      · omega
      · by_cases e2 : k = j
        · have : sub8 (powOf i 1) (powOf j 65535) k = -65535 := by simp [sub8, powOf, e1, e2]
            <;> omega
          rw [this] at h4
          simp at h4
        · have : sub8 (powOf i 1) (powOf j 65535) k = 0 := by simp [sub8, powOf, e1, e2]
          rw [if_pos this] at h4
          exact ih (k + 1) (by omega) (by omega) (by omega) h4
  exact key 8 0 (by omega) (by omega) rfl h

/-- In an order that eliminates variables, a monomial in which one of them occurs is greater than one in which none does. -/
theorem elim_gt {m : Nat} {a b : Nat → Int} (ha : ∀ i, i < 8 → 0 ≤ a i) (hb : ∀ i, i < 8 → m.testBit i = true → b i = 0) (hs : ∃ i, i < 8 ∧ m.testBit i = true ∧ 0 < a i) :
    ∀ (R : List (Nat → Int)), (∀ r ∈ R, In8 r (-1000) 1000) → (∀ j, j < 8 → (m.testBit j = true ∧ 0 < a j) ∨ m.testBit j = false → FirstPos R j) →
      (∀ i j, i < 8 → j < 8 → m.testBit i = true → 0 < a i → m.testBit j = false → 0 < oSgn R (sub8 (powOf i 1) (powOf j 65535))) → oSgn R (sub8 a b) = 1
  | [], _, _, he => by
    have hne : ∀ i j, m.testBit i = true → m.testBit j = false → i ≠ j := fun i j h1 h2 e => by rw [e, h2] at h1; cases h1
    have key : ∀ (n k : Nat), k + n = 8 → (∀ i, i < k → ¬ (m.testBit i = true ∧ 0 < a i)) → sgnTo (sub8 a b) k n = 1 := by
      intro n
      induction n with
      | zero => intro k h1 h2; obtain ⟨i, h3, h4, h5⟩ := hs; exact absurd ⟨h4, h5⟩ (h2 i (by omega))
      | succ n ih =>
        intro k h1 h2
        rw [sgnTo]
        by_cases hk : m.testBit k = true ∧ 0 < a k
        · have : sub8 a b k = a k := by simp only [sub8, hb k (by omega) hk.1]; omega
          rw [this, if_neg (by omega), if_neg (by omega)]
        · have hkm : m.testBit k = true := by
            cases hmk : m.testBit k with
            | true => rfl
            | false =>
              exfalso
              obtain ⟨i, h3, h4, h5⟩ := hs
              have := sgn_pow h3 (show k < 8 by omega) (hne i k h4 hmk) (he i k h3 (by omega) h4 h5 hmk)
              exact h2 i this ⟨h4, h5⟩
          have : sub8 a b k = 0 := by
            have h3 := ha k (by omega)
            have h4 : ¬ 0 < a k := fun h => hk ⟨hkm, h⟩
            simp only [sub8, hb k (by omega) hkm]; omega
          rw [if_pos this]
          exact ih (k + 1) (by omega) fun i hi => by
            by_cases e : i = k
            · rw [e]; exact hk
            · exact h2 i (by omega)
    exact key 8 0 rfl fun i hi => by omega
  | r :: R, hR, hF, he => by
    have hr := hR r (by simp)
    have hne : ∀ i j, m.testBit i = true → m.testBit j = false → i ≠ j := fun i j h1 h2 e => by rw [e, h2] at h1; cases h1
    have hpos : ∀ j, j < 8 → (m.testBit j = true ∧ 0 < a j) ∨ m.testBit j = false → 0 ≤ r j := fun j hj h => by
      rcases hF j hj h with h1 | ⟨h1, _⟩ <;> omega
    have hd : ∀ i j, i < 8 → j < 8 → m.testBit i = true → 0 < a i → m.testBit j = false → ¬ (r i - 65535 * r j < 0) := fun i j hi hj h1 h2 h3 h4 => by
      have := he i j hi hj h1 h2 h3
      rw [oSgn, dotOf_pow hi hj (hne i j h1 h3), if_pos h4] at this
      omega
    have hj0 : ∀ j, j < 8 → m.testBit j = false → r j = 0 := fun j hj h => by
      obtain ⟨i, h3, h4, h5⟩ := hs
      have h6 := hd i j h3 hj h4 h5 h
      have h7 := hpos j hj (.inr h)
      have h8 := hr i h3
      omega
    have hterm : ∀ i, i < 8 → 0 ≤ r i * sub8 a b i := fun i hi => by
      cases hm : m.testBit i with
      | false => rw [hj0 i hi hm]; simp
      | true =>
        simp only [sub8, hb i hi hm, Int.sub_zero]
        by_cases h0 : 0 < a i
        · exact Int.mul_nonneg (hpos i hi (.inl ⟨hm, h0⟩)) (by omega)
        · have := ha i hi; rw [show a i = 0 by omega]; simp
    have hnn : 0 ≤ dotOf r (sub8 a b) := sumTo_nonneg hterm
    rw [oSgn, if_neg (by omega)]
    by_cases h1 : 0 < dotOf r (sub8 a b)
    · rw [if_pos h1]
    · rw [if_neg h1]
      have hz := sumTo_zero_of hterm (show dotOf r (sub8 a b) = 0 by omega)
      have hi0 : ∀ i, i < 8 → m.testBit i = true → 0 < a i → r i = 0 := fun i hi hm h0 => by
        have h2 := hz i hi
        simp only [sub8, hb i hi hm, Int.sub_zero] at h2
        rcases Int.mul_eq_zero.1 h2 with h3 | h3
        · exact h3
        · omega
      refine elim_gt ha hb hs R (fun q hq => hR q (by simp [hq])) (fun j hj h => ?_) fun i j hi hj h2 h3 h4 => ?_
      · rcases hF j hj h with h5 | ⟨_, h5⟩
        · rcases h with ⟨h6, h7⟩ | h6
          · rw [hi0 j hj h6 h7] at h5; omega
          · rw [hj0 j hj h6] at h5; omega
        · exact h5
      · have := he i j hi hj h2 h3 h4
        rw [oSgn, dotOf_pow hi hj (hne i j h2 h4), hi0 i hi h2 h3, hj0 j hj h4] at this
        simpa using this

end Go.Proofs.YteefhmdameeoaaaGreat
