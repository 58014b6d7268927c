/-
  Permuted orders, plainly: the full order compares as the order; the permuted one compares permuted monomials as the order compares the monomials; permuting back.
-/
import Derived.Test.YteefhmdameeoaaaGreatShuf
import Derived.Test.YteefhmdameeoaaaGreatLaw3
import Derived.Test.YteefhmdameeoaaaGreatP8
set_option linter.unusedSimpArgs false
set_option linter.unusedVariables false
namespace Go.Proofs.YteefhmdameeoaaaGreat
open Go.RowKit

/-- A permutation of the numbers below 8. -/
structure IsPerm (p : Nat → Nat) : Prop where
  lt : ∀ i, i < 8 → p i < 8
  inj : ∀ i j, i < 8 → j < 8 → p i = p j → i = j
theorem IsPerm.surj {p : Nat → Nat} (h : IsPerm p) {j : Nat} (hj : j < 8) : ∃ i, i < 8 ∧ p i = j := by
  refine Classical.byContradiction fun hn => ?_
  have hnd : (j :: (List.range 8).map p).Nodup := by
    refine List.nodup_cons.2 ⟨fun hm => ?_, ?_⟩
    · obtain ⟨i, hi, rfl⟩ := List.mem_map.1 hm
      exact hn ⟨i, List.mem_range.1 hi, rfl⟩
    · rw [List.nodup_iff_pairwise_ne, List.pairwise_map]
      refine List.Pairwise.imp_of_mem ?_ (List.nodup_range (n := 8))
      intro a b ha hb hne he
      exact hne (h.inj a b (List.mem_range.1 ha) (List.mem_range.1 hb) he)
  have := hnd.length_le_of_subset (l₂ := List.range 8) (fun x hx => by
    rcases List.mem_cons.1 hx with rfl | hx
    · exact List.mem_range.2 hj
    · obtain ⟨i, hi, rfl⟩ := List.mem_map.1 hx
      exact List.mem_range.2 (h.lt i (List.mem_range.1 hi)))
  simp at this
theorem movedTo_none {a : Nat → Int} {p : Nat → Nat} {j : Nat} : ∀ {k : Nat}, (∀ i, i < k → p i ≠ j) → movedTo a p k j = 0
  | 0, _ => rfl
  | k + 1, h => by rw [movedTo, if_neg (fun e => h k (by omega) e.symm), movedTo_none fun i hi => h i (by omega)]
theorem movedTo_hit {a : Nat → Int} {p : Nat → Nat} {i : Nat} : ∀ {k : Nat}, i < k → (∀ x y, x < k → y < k → p x = p y → x = y) → movedTo a p k (p i) = a i
  | 0, h, _ => by omega
  | k + 1, h, hp => by
    rw [movedTo]
    by_cases e : p i = p k
    · rw [if_pos e, hp i k h (by omega) e]
    · have : i ≠ k := fun e' => e (by rw [e'])
      rw [if_neg e, movedTo_hit (by omega) fun x y hx hy => hp x y (by omega) (by omega)]
theorem IsPerm.hit {p : Nat → Nat} (h : IsPerm p) (a : Nat → Int) {i : Nat} (hi : i < 8) : movedTo a p 8 (p i) = a i := movedTo_hit hi h.inj
theorem sumTo_upd (f : Nat → Int) (q : Nat) (v : Int) : ∀ k, sumTo (fun j => if j = q then v else f j) k = sumTo f k + (if q < k then v - f q else 0)
  | 0 => by simp [sumTo]
  | k + 1 => by
    simp only [sumTo]
    rw [sumTo_upd f q v k]
    by_cases e : k = q
    · subst e; simp; omega
    · by_cases h : q < k
      · simp only [e, h, if_false, if_true, show q < k + 1 by omega]; omega
      · simp only [e, h, if_false, show ¬ q < k + 1 by omega]; omega
theorem sum_moved {p : Nat → Nat} (h : IsPerm p) (f : Nat → Int) : ∀ k, k ≤ 8 → sumTo (movedTo f p k) 8 = sumTo f k
  | 0, _ => by show sumTo (fun _ => 0) 8 = 0; exact sumTo_zero fun _ _ => rfl
  | k + 1, hk => by
    have e : movedTo f p (k + 1) = fun j => if j = p k then f k else movedTo f p k j := rfl
    rw [e, sumTo_upd, if_pos (h.lt k (by omega)), sum_moved h f k (by omega), movedTo_none fun i hi he => by have := h.inj i k (by omega) (by omega) he; omega]
    simp only [sumTo]
    omega
theorem moved_mul (r a b : Nat → Int) (p : Nat → Nat) (j : Nat) : ∀ k, movedTo r p k j * (movedTo a p k j - movedTo b p k j) = movedTo (fun i => r i * (a i - b i)) p k j
  | 0 => by simp [movedTo]
  | k + 1 => by
    simp only [movedTo]
    by_cases e : j = p k
    · simp only [e, if_true]
    · simp only [e, if_false]; exact moved_mul r a b p j k
theorem dot_moved {p : Nat → Nat} (h : IsPerm p) (r a b : Nat → Int) : dotTo (permRow p r) (movedTo a p 8) (movedTo b p 8) 8 = dotTo r a b 8 := by
  unfold dotTo permRow
  rw [sumTo_congr (b := movedTo (fun i => r i * (a i - b i)) p 8) fun i _ => moved_mul r a b p i 8, sum_moved h _ 8 (by omega)]
theorem cmp_moved {p : Nat → Nat} (h : IsPerm p) (a b : Nat → Int) : ∀ Fr : List (Nat → Int), cmpRows (Fr.map (permRow p)) (movedTo a p 8) (movedTo b p 8) = cmpRows Fr a b
  | [] => rfl
  | r :: Fr => by rw [List.map_cons, cmpRows, cmpRows, dot_moved h, cmp_moved h a b Fr]

theorem cmpRows_append (a b : Nat → Int) (S : List (Nat → Int)) : ∀ R, cmpRows (R ++ S) a b = if cmpRows R a b = 0 then cmpRows S a b else cmpRows R a b
  | [] => by simp [cmpRows]
  | r :: R => by
    rw [List.cons_append, cmpRows, cmpRows, cmpRows_append a b S R]
    by_cases h1 : dotTo r a b 8 < 0
    · simp [h1]
    · by_cases h2 : 0 < dotTo r a b 8
      · simp [h1, h2]
      · simp [h1, h2]
theorem bit_unit (i j : Nat) : onesOf (2 ^ i) j = if j = i then 1 else 0 := by
  rw [onesOf_bit, Nat.testBit_two_pow]
  by_cases e : i = j
  · subst e; simp
  · simp [e, Ne.symm e]
theorem dot_unit (a b : Nat → Int) (p : Nat) : ∀ k, dotTo (onesOf (2 ^ p)) a b k = if p < k then a p - b p else 0
  | 0 => by simp [dotTo, sumTo]
  | k + 1 => by
    show dotTo (onesOf (2 ^ p)) a b k + onesOf (2 ^ p) k * (a k - b k) = _
    rw [dot_unit a b p k, bit_unit]
    by_cases e : k = p
    · subst e; simp
    · by_cases h : p < k
      · simp [e, h, show p < k + 1 by omega]
      · simp [e, h, show ¬ p < k + 1 by omega]
def unitFrom (k n : Nat) : List (Nat → Int) := (List.range' k n).map fun i => onesOf (2 ^ i)
theorem cmp_units (a b : Nat → Int) : ∀ (n k : Nat), k + n ≤ 8 → cmpRows (unitFrom k n) a b = lexTo a b k n
  | 0, k, _ => rfl
  | n + 1, k, h => by
    have e : unitFrom k (n + 1) = onesOf (2 ^ k) :: unitFrom (k + 1) n := rfl
    rw [e, cmpRows, dot_unit, if_pos (show k < 8 by omega), cmp_units a b n (k + 1) (by omega), lexTo_sgn, lexTo_sgn]
    have hd : a k - b k = sub8 a b k := rfl
    rw [sgnTo, hd]
    generalize sub8 a b k = d
    by_cases h0 : d = 0
    · subst h0; simp
    · rw [if_neg h0]
      by_cases h1 : d < 0
      · simp [h1]
      · simp [h1, show 0 < d by omega]
theorem unitRows_from : unitRows 8 = unitFrom 0 8 := by
  simp [unitRows, unitFrom, List.range_eq_range']
theorem dotQ_cast (r : Nat → Int) (d : Nat → Int) : ∀ k, dotQ (fun j => ((r j : Int) : Rat)) (fun j => ((d j : Int) : Rat)) k = ((sumTo (fun i => r i * d i) k : Int) : Rat)
  | 0 => by simp [dotQ, sumTo]
  | k + 1 => by simp only [dotQ, sumTo]; rw [dotQ_cast r d k]; simp [Rat.intCast_add, Rat.intCast_mul]
theorem cmpRows_zero {a b : Nat → Int} : ∀ {R : List (Nat → Int)}, cmpRows R a b = 0 → ∀ k, k < R.length → dotTo (rowAt R k) a b 8 = 0
  | [], _, k, h => by simp at h
  | r :: R, h, k, hk => by
    rw [cmpRows] at h
    by_cases h1 : dotTo r a b 8 < 0
    · simp [h1] at h
    · by_cases h2 : 0 < dotTo r a b 8
      · simp [h1, h2] at h
      · simp [h1, h2] at h
        match k with
        | 0 => show dotTo r a b 8 = 0; omega
        | k + 1 => rw [rowAt_cons]; exact cmpRows_zero h k (by simpa using hk)
theorem total_zero {R : List (Nat → Int)} (ht : Total R) {a b : Nat → Int} (h : cmpRows R a b = 0) : ∀ i, i < 8 → a i = b i := fun i hi => by
  have := ht (fun j => ((a j - b j : Int) : Rat)) (fun k hk => by
    have e := dotQ_cast (rowAt R k) (fun j => a j - b j) 8
    show dotQ (ratRows R k) _ 8 = 0
    have e2 : ratRows R k = fun j => ((rowAt R k j : Int) : Rat) := rfl
    rw [e2, e]
    have h0 := cmpRows_zero h k hk
    unfold dotTo at h0
    rw [h0]; rfl) i hi
  have h3 : ((a i - b i : Int) : Rat) = ((0 : Int) : Rat) := this
  have := Rat.intCast_inj.1 h3
  omega
theorem lex8_same {a b : Nat → Int} (h : ∀ i, i < 8 → a i = b i) : lex8 a b = 0 := lexTo_eq 8 0 fun i _ hi => h i (by omega)
theorem full_cmp {R Fr : List (Nat → Int)} (hf : FullOf R Fr) (a b : Nat → Int) : cmpRows Fr a b = oCmp R a b := by
  rcases hf with ⟨h1, rfl⟩ | ⟨h1, h2, rfl⟩
  · rw [oCmp]
    by_cases h : cmpRows Fr a b = 0
    · rw [if_pos h, h, lex8_same (total_zero h1 h)]
    · rw [if_neg h]
  · rw [cmpRows_append, unitRows_from, cmp_units a b 8 0 (by omega)]
    rfl
theorem ratRows_lt {R S : List (Nat → Int)} {k : Nat} (h : k < R.length) : rowAt (R ++ S) k = rowAt R k := by
  simp [rowAt, List.getD_eq_getElem?_getD, List.getElem?_append_left h]
theorem ratRows_ge {R S : List (Nat → Int)} {k : Nat} : rowAt (R ++ S) (R.length + k) = rowAt S k := by
  simp only [rowAt, List.getD_eq_getElem?_getD]
  rw [List.getElem?_append_right (by omega), Nat.add_sub_cancel_left]
theorem rowAt_unit {k : Nat} (h : k < 8) : rowAt (unitRows 8) k = onesOf (2 ^ k) := by
  simp [rowAt, unitRows, List.getD_eq_getElem?_getD, h]
theorem full_total {R Fr : List (Nat → Int)} (hf : FullOf R Fr) : Total Fr := by
  rcases hf with ⟨h1, rfl⟩ | ⟨h1, h2, rfl⟩
  · exact h1
  · intro x hx i hi
    have h3 := hx (R.length + i) (by rw [List.length_append, unitRows_length]; omega)
    have e : ratRows (R ++ unitRows 8) (R.length + i) = fun j => if j = i then 1 else 0 := funext fun j => by
      show ((rowAt (R ++ unitRows 8) (R.length + i) j : Int) : Rat) = _
      rw [ratRows_ge, rowAt_unit hi, bit_unit]
      by_cases e : j = i <;> simp [e]
    rw [e, dotQ_single (p := i) hi fun j hj hne => by simp only [hne, if_false]; grind] at h3
    simp only [if_true] at h3
    grind
theorem seen_append {R S : List (Nat → Int)} {j : Nat} : ∀ {k : Nat}, k ≤ R.length → seenTo (R ++ S) k j = seenTo R k j
  | 0, _ => rfl
  | k + 1, h => by rw [seenTo, seenTo, seen_append (k := k) (by omega), ratRows_lt (by omega)]
theorem full_valid {R Fr : List (Nat → Int)} (hv : OValid R) (hf : FullOf R Fr) : OValid Fr := by
  rcases hf with ⟨h1, rfl⟩ | ⟨h1, h2, rfl⟩
  · exact hv
  · refine ⟨by rw [List.length_append, unitRows_length]; omega, fun k j hk hj => ?_⟩
    by_cases h : k < R.length
    · have := hv.2 k j h hj
      unfold OkAt at this ⊢
      rw [ratRows_lt h, seen_append (by omega)]
      exact this
    · obtain ⟨q, rfl⟩ : ∃ q, k = R.length + q := ⟨k - R.length, by omega⟩
      rw [List.length_append, unitRows_length] at hk
      unfold OkAt
      rw [ratRows_ge, rowAt_unit (by omega), bit_unit]
      split <;> omega
theorem rowAt_map {R : List (Nat → Int)} {p : Nat → Nat} {k : Nat} (h : k < R.length) : rowAt (R.map (permRow p)) k = permRow p (rowAt R k) := by
  simp [rowAt, List.getD_eq_getElem?_getD, List.getElem?_eq_getElem h]
theorem seen_moved {R : List (Nat → Int)} {p : Nat → Nat} (h : IsPerm p) {i : Nat} (hi : i < 8) : ∀ {k : Nat}, k ≤ R.length → seenTo (R.map (permRow p)) k (p i) = seenTo R k i
  | 0, _ => rfl
  | k + 1, hk => by rw [seenTo, seenTo, seen_moved h hi (by omega), rowAt_map (by omega), permRow, h.hit _ hi]
theorem moved_valid {R : List (Nat → Int)} {p : Nat → Nat} (h : IsPerm p) (hv : OValid R) : OValid (R.map (permRow p)) := by
  refine ⟨by rw [List.length_map]; exact hv.1, fun k j hk hj => ?_⟩
  rw [List.length_map] at hk
  obtain ⟨i, hi, rfl⟩ := h.surj hj
  have := hv.2 k i hk hi
  unfold OkAt at this ⊢
  rw [rowAt_map hk, permRow, h.hit _ hi, seen_moved h hi (by omega)]
  exact this
theorem dotQ_moved {p : Nat → Nat} (h : IsPerm p) (r : Nat → Int) (x : Nat → Rat) : ∀ k, k ≤ 8 → dotQ (fun j => ((movedTo r p k j : Int) : Rat)) x 8 = dotQ (fun j => ((r j : Int) : Rat)) (fun i => x (p i)) k
  | 0, _ => by simp only [dotQ, movedTo]; grind
  | k + 1, hk => by
    have ih := dotQ_moved h r x k (by omega)
    have h0 : movedTo r p k (p k) = 0 := movedTo_none fun i hi he => by have := h.inj i k (by omega) (by omega) he; omega
    have key : ∀ n, dotQ (fun j => ((movedTo r p (k + 1) j : Int) : Rat)) x n = dotQ (fun j => ((movedTo r p k j : Int) : Rat)) x n + (if p k < n then ((r k : Int) : Rat) * x (p k) else 0) := by
      intro n
      induction n with
      | zero => simp only [dotQ, Nat.not_lt_zero, if_false]; grind
      | succ n ihn =>
        simp only [dotQ, movedTo]
        simp only [movedTo] at ihn
        rw [ihn]
        by_cases e : n = p k
        · rw [if_pos e, if_neg (by omega), if_pos (by omega), e, h0]
          simp only [Rat.intCast_zero]
          grind
        · rw [if_neg e]
          by_cases hl : p k < n
          · rw [if_pos hl, if_pos (by omega)]; grind
          · rw [if_neg hl, if_neg (by omega)]; grind
    rw [key 8, if_pos (h.lt k (by omega)), ih]
    simp only [dotQ]
theorem moved_total {R : List (Nat → Int)} {p : Nat → Nat} (h : IsPerm p) (ht : Total R) : Total (R.map (permRow p)) := fun x hx j hj => by
  obtain ⟨i, hi, rfl⟩ := h.surj hj
  refine ht (fun i => x (p i)) (fun k hk => ?_) i hi
  have h1 := hx k (by rw [List.length_map]; exact hk)
  have e : ratRows (R.map (permRow p)) k = fun j => ((movedTo (rowAt R k) p 8 j : Int) : Rat) := funext fun j => by
    show ((rowAt (R.map (permRow p)) k j : Int) : Rat) = _
    rw [rowAt_map hk]; rfl
  rw [e, dotQ_moved h _ _ 8 (by omega)] at h1
  exact h1
theorem moved_cmp {R Fr : List (Nat → Int)} {p : Nat → Nat} (h : IsPerm p) (hf : FullOf R Fr) (a b : Nat → Int) : oCmp (Fr.map (permRow p)) (movedTo a p 8) (movedTo b p 8) = oCmp R a b := by
  rw [← full_cmp hf a b, oCmp, cmp_moved h]
  by_cases h0 : cmpRows Fr a b = 0
  · rw [if_pos h0, h0]
    refine lex8_same fun j hj => ?_
    obtain ⟨i, hi, rfl⟩ := h.surj hj
    rw [h.hit _ hi, h.hit _ hi]
    exact total_zero (full_total hf) h0 i hi
  · rw [if_neg h0]
theorem full_ocmp {R Fr : List (Nat → Int)} (hf : FullOf R Fr) (a b : Nat → Int) : oCmp Fr a b = oCmp R a b := by
  rw [← full_cmp hf a b, oCmp]
  by_cases h0 : cmpRows Fr a b = 0
  · rw [if_pos h0, h0, lex8_same (total_zero (full_total hf) h0)]
  · rw [if_neg h0]
/-- The places of numbers under a permutation, the first k. -/
def backTo (p : Nat → Nat) : Nat → Nat → Nat
  | 0, _ => 0
  | k + 1, j => if j = p k then k else backTo p k j
theorem back_hit {p : Nat → Nat} {i : Nat} : ∀ {k : Nat}, i < k → (∀ x y, x < k → y < k → p x = p y → x = y) → backTo p k (p i) = i
  | 0, h, _ => by omega
  | k + 1, h, hp => by
    rw [backTo]
    by_cases e : p i = p k
    · rw [if_pos e, hp i k h (by omega) e]
    · have : i ≠ k := fun e' => e (by rw [e'])
      rw [if_neg e, back_hit (by omega) fun x y hx hy => hp x y (by omega) (by omega)]
theorem IsPerm.back {p : Nat → Nat} (h : IsPerm p) : IsPerm (backTo p 8) := by
  refine ⟨fun j hj => ?_, fun a b ha hb he => ?_⟩
  · obtain ⟨i, hi, rfl⟩ := h.surj hj
    rw [back_hit hi h.inj]; exact hi
  · obtain ⟨i, hi, rfl⟩ := h.surj ha
    obtain ⟨j, hj, rfl⟩ := h.surj hb
    rw [back_hit hi h.inj, back_hit hj h.inj] at he
    rw [he]
theorem back_rows {p : Nat → Nat} (h : IsPerm p) (Fr : List (Nat → Int)) : alikeB ((Fr.map (permRow p)).map (permRow (backTo p 8))) Fr = true := by
  simp only [alikeB, alikeTo, List.length_map, decide_true, Bool.true_and, List.all_eq_true, List.mem_range]
  intro k hk
  refine eqB_true.2 fun j hj => ?_
  rw [Nat.zero_add, rowAt_map (by rw [List.length_map]; omega), rowAt_map (by omega)]
  have e : j = backTo p 8 (p j) := (back_hit hj h.inj).symm
  have e2 := h.back.hit (permRow p (rowAt Fr k)) (h.lt j hj)
  rw [← e] at e2
  unfold permRow at e2 ⊢
  rw [e2, h.hit _ hj]

end Go.Proofs.YteefhmdameeoaaaGreat
