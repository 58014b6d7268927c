/-
  The reference's Sort: inserting, plainly; append onto a slice without room.
-/
import Derived.Test.YteefhmdameeoaaaGreatRefq
set_option linter.unusedSimpArgs false
set_option linter.unusedVariables false
namespace Go.Proofs.YteefhmdameeoaaaGreat
open Go.RowKit

theorem rowAt_ins {S : List (Nat → Int)} {at_ : Nat} (h : at_ ≤ S.length) (x : Nat → Int) (j : Nat) : rowAt (S.take at_ ++ x :: S.drop at_) j = if j < at_ then rowAt S j else if j = at_ then x else rowAt S (j - 1) := by
  unfold rowAt
  simp only [List.getD_eq_getElem?_getD]
  by_cases h1 : j < at_
  · rw [if_pos h1, List.getElem?_append_left (by simp; omega), List.getElem?_take, if_pos h1]
  · rw [if_neg h1, List.getElem?_append_right (by simp; omega), List.length_take, Nat.min_eq_left h]
    by_cases h2 : j = at_
    · rw [if_pos h2, h2, Nat.sub_self]; rfl
    · rw [if_neg h2, show j - at_ = (j - at_ - 1) + 1 by omega, List.getElem?_cons_succ, List.getElem?_drop, show at_ + (j - at_ - 1) = j - 1 by omega]
theorem ins_length {S : List (Nat → Int)} {at_ : Nat} (h : at_ ≤ S.length) (x : Nat → Int) : (S.take at_ ++ x :: S.drop at_).length = S.length + 1 := by
  simp; omega
theorem SortOf.same {R P S : List (Nat → Int)} {x : Nat → Int} {at_ : Nat} (h : SortOf R P S) (hl : at_ < S.length) (he : Eqv (rowAt S at_) x) : SortOf R (P ++ [x]) S := by
  refine ⟨h.dec, fun a ha => ?_, fun b hb => ?_, by have := h.len; simp; omega⟩
  · obtain ⟨b, hb, hab⟩ := h.sub a ha
    exact ⟨b, List.mem_append_left _ hb, hab⟩
  · rcases List.mem_append.1 hb with hb | hb
    · exact h.sup b hb
    · obtain rfl : b = x := by simpa using hb
      exact ⟨_, rowAt_mem hl, he⟩
theorem SortOf.ins {R P S : List (Nat → Int)} {x : Nat → Int} {at_ : Nat} (h : SortOf R P S) (hl : at_ ≤ S.length) (h1 : ∀ j, j < at_ → 0 < oCmp R (rowAt S j) x) (h2 : at_ < S.length → 0 < oCmp R x (rowAt S at_)) : SortOf R (P ++ [x]) (S.take at_ ++ x :: S.drop at_) := by
  have h3 : ∀ j, at_ ≤ j → j < S.length → 0 < oCmp R x (rowAt S j) := fun j hj hjl => by
    have h4 := h2 (by omega)
    by_cases e : j = at_
    · rw [e]; exact h4
    · have h5 := h.dec at_ j (by omega) hjl
      exact (oCmp_trans (Int.le_of_lt h4) (Int.le_of_lt h5)).2 (.inl h4)
  refine ⟨fun i j hij hj => ?_, fun a ha => ?_, fun b hb => ?_, by rw [ins_length hl]; have := h.len; simp; omega⟩
  · rw [ins_length hl] at hj
    rw [rowAt_ins hl, rowAt_ins hl]
    by_cases i1 : i < at_
    · rw [if_pos i1]
      by_cases j1 : j < at_
      · rw [if_pos j1]; exact h.dec i j hij (by omega)
      · rw [if_neg j1]
        by_cases j2 : j = at_
        · rw [if_pos j2]; exact h1 i i1
        · rw [if_neg j2]; exact h.dec i (j - 1) (by omega) (by omega)
    · rw [if_neg i1, if_neg (show ¬ j < at_ by omega), if_neg (show ¬ j = at_ by omega)]
      by_cases i2 : i = at_
      · rw [if_pos i2]; exact h3 (j - 1) (by omega) (by omega)
      · rw [if_neg i2]; exact h.dec (i - 1) (j - 1) (by omega) (by omega)
  · rcases List.mem_append.1 ha with ha | ha
    · obtain ⟨b, hb, hab⟩ := h.sub a (List.mem_of_mem_take ha)
      exact ⟨b, List.mem_append_left _ hb, hab⟩
    · rcases List.mem_cons.1 ha with rfl | ha
      · exact ⟨a, by simp, Eqv.refl _⟩
      · obtain ⟨b, hb, hab⟩ := h.sub a (List.mem_of_mem_drop ha)
        exact ⟨b, List.mem_append_left _ hb, hab⟩
  · rcases List.mem_append.1 hb with hb | hb
    · obtain ⟨a, ha, hab⟩ := h.sup b hb
      rw [← List.take_append_drop at_ S] at ha
      rcases List.mem_append.1 ha with ha | ha
      · exact ⟨a, List.mem_append_left _ ha, hab⟩
      · exact ⟨a, List.mem_append_right _ (List.mem_cons_of_mem _ ha), hab⟩
    · obtain rfl : b = x := by simpa using hb
      exact ⟨b, by simp, Eqv.refl _⟩
theorem SortOf.nil (R : List (Nat → Int)) : SortOf R [] [] := ⟨fun i j _ h => absurd h (Nat.not_lt_zero _), fun a h => absurd h (by simp), fun b h => absurd h (by simp), Nat.le_refl _⟩

theorem rows_news {w : World} {S : List (Nat → Int)} {b o : Nat} (hcell : ∀ k j, k < S.length → j < 8 → w.cell? ⟨b, o + k * 8 + j, none⟩ = some (.int .i64 (rowAt S k j))) : ∀ (q : Nat) (u : Value), (rl S)[q]? = some u → w.cell? ((⟨b, o, none⟩ : Addr).add q) = some u := by
  intro q u hu
  have hq : q < S.length * 8 := by rw [← rl_length]; exact (List.getElem?_eq_some_iff.1 hu).1
  have e : q = q / 8 * 8 + q % 8 := by omega
  have hu' := rl_get S (q / 8) (q % 8) (by omega) (by omega)
  rw [← e, hu] at hu'
  have e2 : o + q = o + q / 8 * 8 + q % 8 := by omega
  rw [hu', add_mk, e2]
  exact hcell (q / 8) (q % 8) (by omega) (by omega)
/-- append onto a slice of monomials without room: new memory. -/
theorem append_full {w : World} {b o : Nat} {x : Value} {R S : List (Nat → Int)} (hr : ∀ k j, k < R.length → j < 8 → w.cell? ⟨b, o + k * 8 + j, none⟩ = some (.int .i64 (rowAt R k j))) (hx : RowsIn .i64 w x S) (h0 : 0 < S.length) (hn : R.length + S.length ≤ 1000) (hfit : Builtin.nextslicecap (R.length + S.length) R.length ≤ 1000000) :
    ∃ A c w', (Builtin.append_ #[32, 32] 32 #[.slice (some ⟨b, o, none⟩) R.length R.length, x]).run Tryz.prog w = .ok (.slice A (R ++ S).length c) w' ∧ RowsAt .i64 36 w' (.slice A (R ++ S).length c) (R ++ S) ∧ Ext w w' := by
  obtain ⟨i, hi, hz0, hz1, hz2⟩ := info_parts (show (Tryz.prog.info? 36).map (fun i => (i.zero, i.size, i.bytes)) = some (some (.agg (c8 fun _ => 0)), 8, 64) by kernel_rfl)
  obtain ⟨X, cx, rfl, hc, hm, hcells⟩ := hx
  obtain ⟨b', o', rfl, hbl, hcell⟩ := hcells h0
  have hgr := run_append_grow (P := Tryz.prog) w 32 32 36 i _ Tryz.underlying32 hi hz0 ⟨b, o, none⟩ R.length R.length (rl R) (by rw [rl_length, hz1]) (rows_news hr) ⟨b', o', none⟩ S.length cx (rl S) (by rw [rl_length, hz1]) (rows_news hcell) (by omega) (by omega) (by rw [hz2]; omega)
  refine ⟨_, _, _, by rw [List.length_append]; exact hgr, ?_, (Ext.refl _).drew.alloc _⟩
  refine ⟨_, _, rfl, by rw [List.length_append]; exact grownCap_ge _ _ _ _, by have := grownCap_le_maxLen w (R.length + S.length) R.length 36 (by simp only [maxLen]; omega); simpa [maxLen] using this, fun _ => ⟨w.heap.size, 0, _, (0, 0), rfl, Blk.new _ _ _, fun k j hk hj => ?_⟩⟩
  have := rl_get (R ++ S) k j hk hj
  rw [rl_append] at this
  rw [Nat.zero_add, Array.getElem?_append_left (by have := (List.getElem?_eq_some_iff.1 this).1; simpa using this)]
  simpa using this

end Go.Proofs.YteefhmdameeoaaaGreat
