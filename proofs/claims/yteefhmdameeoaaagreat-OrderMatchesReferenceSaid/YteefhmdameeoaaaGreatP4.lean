/-
  Contracts of package rational: isOne, product.
  Contracts of package rational: product of two integers.
  Rational numbers: plain facts, and when eight cells (four values) read as a rational number.
  Contracts of package rational: lowest.
  Contracts of package rational: whole, Whole, Sign, Neg, Sub, Mul, Add.
  Contracts of package rational: Add, Sub, Inv, Div.
  Contracts of package rational: Inv, Div (of a number other than zero).
-/
import Derived.Test.YteefhmdameeoaaaGreatP3
set_option linter.unusedSimpArgs false
set_option linter.unusedVariables false
namespace Go.Proofs.YteefhmdameeoaaaGreat
open Go.RowKit

theorem IsInt.one {w : World} {b : Bool} {A : Option Addr} {n c : Nat} {z : Int} (h : IsInt w (.bool b) (.slice A n c) z) (h1 : z = 1) : b = false ∧ n = 1 ∧ ∃ g o, A = some ⟨g, o, none⟩ ∧ w.cell? ⟨g, o, none⟩ = some (.int .u32 1) := by
  subst h1
  have hd : digs (1 : Int).natAbs = [1] := by
    show digs 1 = [1]
    rw [digs_pos (by omega)]
    have : (1 : Nat) % BB = 1 := Nat.mod_eq_of_lt one_lt_BB
    have h2 : (1 : Nat) / BB = 0 := Nat.div_eq_of_lt one_lt_BB
    rw [this, h2, digs_zero]
  have h2 := h.2
  rw [hd] at h2
  obtain ⟨A', c', hv, _, _, hx⟩ := h2.open_
  injection hv with e1 e2 e3
  subst e1; subst e3
  obtain ⟨g, o, hA, _, hc⟩ := hx (by simp)
  exact ⟨h.bool_eq, e2, g, o, hA, hc 0 (by simp)⟩

set_option maxRecDepth 100000 in
set_option maxHeartbeats 800000 in
theorem isOne_any (b : Bool) (A : Option Addr) (n c : Nat) (z : Int) (w : World) (h : IsInt w (.bool b) (.slice A n c) z) :
    Calls Tryz.prog 89 #[.agg #[.bool b, .slice A n c]] w fun e w' => e = .returned (.bool (decide (z = 1))) ∧ Ext w w' := by
  cases b with
  | true =>
    have hz : Hid (decide (z = 1) = false) := by
      have := h.bool_eq
      show _ = false
      simp at this ⊢
      omega
    clear h
    go_enter Tryz.func89, Tryz.ntmps89
    go_wp2
    go_ret
    exact ⟨by rw [hz.out]; rfl, (Ext.refl _).alloc _⟩
  | false =>
    by_cases hn : n = 1
    · subst hn
      have h2 := h.2
      have hl := h2.len
      obtain ⟨t, ht⟩ : ∃ t, digs z.natAbs = [t] := by
        match hd : digs z.natAbs, hl with
        | [t], _ => exact ⟨t, rfl⟩
      rw [ht] at h2
      obtain ⟨A', c', hv, hc, hm, hx⟩ := h2.open_
      injection hv with e1 e2 e3
      subst e1; subst e3
      obtain ⟨g, o, rfl, hg, hcell⟩ := hx (by simp)
      replace hcell : w.cell? ⟨g, o, none⟩ = some (.int .u32 (t : Nat)) := hcell 0 (by simp)
      have hzt : Hid (z = (t : Nat)) := by
        have h3 : z.natAbs = t := by rw [← val_digs z.natAbs, ht]; simp [val]
        have h4 := h.bool_eq
        simp at h4
        show z = t
        omega
      have hne : w.heap.size ≠ g := by omega
      clear hx h2 h hl e2
      replace ht := hide ht
      by_cases h1 : t = 1
      · subst h1
        go_enter Tryz.func89, Tryz.ntmps89
        go_wp2
        go_ret
        exact ⟨by rw [hzt.out]; rfl, (Ext.refl _).alloc _⟩
      · have hb1 : ((t : Int) == 1) = false := by simp; omega
        go_enter Tryz.func89, Tryz.ntmps89
        go_wp2
        go_ret
        refine ⟨?_, (Ext.refl _).alloc _⟩
        have : decide (z = 1) = false := by rw [hzt.out]; simp; omega
        rw [this]; rfl
    · have hz : Hid (decide (z = 1) = false) := by
        show _ = false
        simp only [decide_eq_false_iff_not]
        intro e
        exact hn (h.one e).2.1
      have hb1 : ((n : Int) == 1) = false := by simp; omega
      clear h
      go_enter Tryz.func89, Tryz.ntmps89
      go_wp2
      go_ret
      exact ⟨by rw [hz.out]; rfl, (Ext.refl _).alloc _⟩

end Go.Proofs.YteefhmdameeoaaaGreat
namespace Go.Proofs.YteefhmdameeoaaaGreat
open Go.RowKit

/-- The loop of product: z is the product so far, in block g. -/
def ProdRel (w wr : World) (g : Nat) (z : Int) : Prop := ∃ (b : Bool) (A : Option Addr) (n c : Nat), Blk wr g 72 #[.bool b, .slice A n c] ∧ IsInt wr (.bool b) (.slice A n c) z ∧ Ext w wr

theorem len_mul {x y : Int} {N M : Nat} (hx : (digs x.natAbs).length ≤ N) (hy : (digs y.natAbs).length ≤ M) : (digs (x * y).natAbs).length ≤ N + M := by
  have h1 := lt_of_digs hx
  have h2 := lt_of_digs hy
  have h3 : (x * y).natAbs < BB ^ (N + M) := by
    rw [Int.natAbs_mul, Nat.pow_add]
    rcases Nat.eq_zero_or_pos y.natAbs with h0 | h0
    · rw [h0, Nat.mul_zero]; exact Nat.mul_pos (Nat.pow_pos BB_pos) (Nat.pow_pos BB_pos)
    · exact Nat.mul_lt_mul_of_lt_of_le h1 (Nat.le_of_lt h2) (Nat.pow_pos BB_pos)
  exact len_of_lt h3

set_option maxRecDepth 100000 in
set_option maxHeartbeats 800000 in
theorem prod2_any (g : Nat) (b b' : Bool) (A A' : Option Addr) (n c n' c' : Nat) (x y : Int) (w : World) (hB : Blk w g 72 #[.bool b, .slice A n c, .bool b', .slice A' n' c']) (h : IsInt w (.bool b) (.slice A n c) x) (h' : IsInt w (.bool b') (.slice A' n' c') y)
    (hn : (digs x.natAbs).length ≤ 4398046511104) (hn' : (digs y.natAbs).length ≤ 4398046511104) :
    Calls Tryz.prog 68 #[.slice (some ⟨g, 0, none⟩) 2 2] w (RetInt (x * y) w) := by
  have hg := Blk.lt hB
  replace hB := hide hB
  replace h := hide h
  replace h' := hide h'
  replace hn := hide hn
  replace hn' := hide hn'
  go_enter Tryz.func68, Tryz.ntmps68
  go_wp2_with fail
  refine (of_any 1 _ (by omega) (by omega)).mono ?_
  rintro e w1 ⟨b1, A1, n1, c1, rfl, hI1, hE1⟩
  replace hI1 := hide hI1
  obtain ⟨hcell, hfr⟩ := hE1.cells
  replace hE1 := hide hE1
  have hsz : w.heap.size < w1.heap.size := by have := hE1.out.size; simp at this; omega
  go_wp2
  go_loopw [9] (fun i wr => ∃ k : Nat, k ≤ 2 ∧ i = .int .i64 k ∧ Hid (ProdRel w wr w1.heap.size (if k = 0 then 1 else if k = 1 then x else x * y) ∧ Blk wr w.heap.size 72 #[.bool false, .slice none 0 0])) (fun i _ => 2 - (intOf i).toNat)
  case atStart => exact ⟨0, by omega, rfl, ⟨b1, A1, n1, c1, Blk.new _ _ _, hI1.out.ext ((Ext.refl _).alloc _), ((Ext.refl _).alloc _).trans (hE1.out.alloc _)⟩, ((Blk.new w _ _).ext hE1.out).alloc _⟩
  case round =>
    obtain ⟨k, hk, rfl, hR⟩ := hrel
    clear hcell hfr hI1
    rcases (show k = 0 ∨ k = 1 ∨ k = 2 by omega) with rfl | rfl | rfl
    · obtain ⟨⟨b3, A3, n3, c3, hB3, hI3, hE3⟩, hB4⟩ := hR.out
      have hBg : Blk wr g 72 #[.bool b, .slice A n c, .bool b', .slice A' n' c'] := hB.out.ext hE3
      have q0 : wr.cell? ⟨g, 0, none⟩ = some (.bool b) := hBg.cell 0
      have q1 : wr.cell? ⟨g, 1, none⟩ = some (.slice A n c) := hBg.cell 1
      have r0 : wr.cell? ⟨w1.heap.size, 0, none⟩ = some (.bool b3) := hB3.cell 0
      have r1 : wr.cell? ⟨w1.heap.size, 1, none⟩ = some (.slice A3 n3 c3) := hB3.cell 1
      have r2 := hB3.frozen 0
      have r3 := hB3.frozen 1
      have z1 := Blk.lt hB3
      have z2 := Blk.lt hBg
      have hIx := h.out.ext hE3
      obtain ⟨zp, hzp⟩ : ∃ zp : Int, zp = (if (0 : Nat) = 0 then (1 : Int) else if (0 : Nat) = 1 then x else x * y) := ⟨_, rfl⟩
      rw [← hzp] at hI3
      replace hzp := hide hzp
      replace hI3 := hide hI3
      replace hB3 := hide hB3
      replace hB4 := hide hB4
      replace hBg := hide hBg
      replace hIx := hide hIx
      replace hE3 := hide hE3
      clear hR
      by_cases hx1 : x = 1
      · have hxd : decide (x = 1) = true := by simpa using hx1
        replace hx1 := hide hx1
        go_wp2_with fail
        refine (isOne_any _ _ _ _ _ _ (hIx.out.ext ((Ext.refl _).alloc _))).mono ?_
        rintro e w2 ⟨rfl, hE4⟩
        replace hE4 := ((Ext.refl _).alloc _).trans hE4
        replace hE4 := hide hE4
        go_wp2
        refine ⟨⟨1, by omega, rfl, ⟨b3, A3, n3, c3, hB3.out.ext hE4.out, ?_, hE3.out.trans hE4.out⟩, hB4.out.ext hE4.out⟩, by simp [intOf]⟩
        have e1 : (if (1 : Nat) = 0 then (1 : Int) else if (1 : Nat) = 1 then x else x * y : Int) = zp * x := by rw [hzp.out]; simp
        have := hI3.out.ext hE4.out
        show IsInt w2 _ _ (if (1 : Nat) = 0 then (1 : Int) else if (1 : Nat) = 1 then x else x * y)
        rw [e1, hx1.out, Int.mul_one]
        exact this
      · have hxd : decide (x = 1) = false := by simpa using hx1
        replace hx1 := hide hx1
        by_cases hz1 : zp = 1
        · have hzd : decide (zp = 1) = true := by simpa using hz1
          replace hz1 := hide hz1
          go_wp2_with fail
          refine (isOne_any _ _ _ _ _ _ (hIx.out.ext ((Ext.refl _).alloc _))).mono ?_
          rintro e w2 ⟨rfl, hE4⟩
          obtain ⟨hcell4, hfr4⟩ := hE4.cells
          have s4 := hE4.size
          simp at s4
          replace hE4 := hide hE4
          go_wp2_with fail
          refine (isOne_any _ _ _ _ _ _ (hI3.out.ext (((Ext.refl _).alloc _).trans hE4.out))).mono ?_
          rintro e w3 ⟨rfl, hE5⟩
          clear hcell4 hfr4
          replace hE5 := hide (hE4.out.trans hE5)
          obtain ⟨hcell5, hfr5⟩ := hE5.out.cells
          have s5 := hE5.out.size
          simp at s5
          go_wp2
          have hEw := ((Ext.refl _).alloc _).trans hE5.out
          have hB5 := hB3.out.ext hEw
          have ht := hB5.ty
          refine ⟨⟨1, by omega, rfl, ⟨_, _, _, _, (hB5.set 0 _).set 1 _, ?_, ?_⟩, ?_⟩, by simp [intOf]⟩
          · have e1 : (if (1 : Nat) = 0 then (1 : Int) else if (1 : Nat) = 1 then x else x * y : Int) = zp * x := by rw [hzp.out]; simp
            show IsInt _ _ _ (if (1 : Nat) = 0 then (1 : Int) else if (1 : Nat) = 1 then x else x * y)
            rw [e1, hz1.out, Int.one_mul]
            exact ((hIx.out.ext hEw).set ht (by decide) _).set (ht.set _ _) (by decide) _
          · exact ((hE3.out.trans hEw).set (by show w.heap.size ≤ w1.heap.size; omega) _).set (by show w.heap.size ≤ w1.heap.size; omega) _
          · exact ((hB4.out.ext hEw).far (by simp; omega) _).far (by simp; omega) _
        · have hzd : decide (zp = 1) = false := by simpa using hz1
          replace hz1 := hide hz1
          go_wp2_with fail
          refine (isOne_any _ _ _ _ _ _ (hIx.out.ext ((Ext.refl _).alloc _))).mono ?_
          rintro e w2 ⟨rfl, hE4⟩
          obtain ⟨hcell4, hfr4⟩ := hE4.cells
          have s4 := hE4.size
          simp at s4
          replace hE4 := hide hE4
          go_wp2_with fail
          refine (isOne_any _ _ _ _ _ _ (hI3.out.ext (((Ext.refl _).alloc _).trans hE4.out))).mono ?_
          rintro e w3 ⟨rfl, hE5⟩
          clear hcell4 hfr4
          replace hE5 := hide (hE4.out.trans hE5)
          obtain ⟨hcell5, hfr5⟩ := hE5.out.cells
          have s5 := hE5.out.size
          simp at s5
          have hEw := ((Ext.refl _).alloc _).trans hE5.out
          replace hEw := hide hEw
          go_wp2_with fail
          refine (mul_any _ _ _ _ _ _ _ _ _ _ _ (hI3.out.ext hEw.out) (hIx.out.ext hEw.out) (by rw [hzp.out]; show (digs 1).length ≤ _; have := len_of_lt (x := 1) (k := 1) (by rw [Nat.pow_one]; exact one_lt_BB); omega) hn.out).mono ?_
          rintro e w4 ⟨b6, A6, n6, c6, rfl, hI6, hE6⟩
          clear hcell5 hfr5
          have hE7 := hide (hE5.out.trans hE6)
          replace hEw := hide (hEw.out.trans hE6)
          obtain ⟨hcell7, hfr7⟩ := hE7.out.cells
          replace hI6 := hide hI6
          have s7 := hE7.out.size
          simp at s7
          go_wp2
          have hB5 := hB3.out.ext hEw.out
          have ht := hB5.ty
          refine ⟨⟨1, by omega, rfl, ⟨_, _, _, _, (hB5.set 0 _).set 1 _, ?_, ?_⟩, ?_⟩, by simp [intOf]⟩
          · have e1 : (if (1 : Nat) = 0 then (1 : Int) else if (1 : Nat) = 1 then x else x * y : Int) = zp * x := by rw [hzp.out]; simp
            show IsInt _ _ _ (if (1 : Nat) = 0 then (1 : Int) else if (1 : Nat) = 1 then x else x * y)
            rw [e1]
            exact (hI6.out.set ht (by decide) _).set (ht.set _ _) (by decide) _
          · exact ((hE3.out.trans hEw.out).set (by show w.heap.size ≤ w1.heap.size; omega) _).set (by show w.heap.size ≤ w1.heap.size; omega) _
          · exact ((hB4.out.ext hEw.out).far (by simp; omega) _).far (by simp; omega) _
    · obtain ⟨⟨b3, A3, n3, c3, hB3, hI3, hE3⟩, hB4⟩ := hR.out
      have hBg : Blk wr g 72 #[.bool b, .slice A n c, .bool b', .slice A' n' c'] := hB.out.ext hE3
      have q0 : wr.cell? ⟨g, 2, none⟩ = some (.bool b') := hBg.cell 2
      have q1 : wr.cell? ⟨g, 3, none⟩ = some (.slice A' n' c') := hBg.cell 3
      have r0 : wr.cell? ⟨w1.heap.size, 0, none⟩ = some (.bool b3) := hB3.cell 0
      have r1 : wr.cell? ⟨w1.heap.size, 1, none⟩ = some (.slice A3 n3 c3) := hB3.cell 1
      have r2 := hB3.frozen 0
      have r3 := hB3.frozen 1
      have z1 := Blk.lt hB3
      have z2 := Blk.lt hBg
      have hIx := h'.out.ext hE3
      obtain ⟨zp, hzp⟩ : ∃ zp : Int, zp = (if (1 : Nat) = 0 then (1 : Int) else if (1 : Nat) = 1 then x else x * y) := ⟨_, rfl⟩
      rw [← hzp] at hI3
      replace hzp := hide hzp
      replace hI3 := hide hI3
      replace hB3 := hide hB3
      replace hB4 := hide hB4
      replace hBg := hide hBg
      replace hIx := hide hIx
      replace hE3 := hide hE3
      clear hR
      by_cases hx1 : y = 1
      · have hxd : decide (y = 1) = true := by simpa using hx1
        replace hx1 := hide hx1
        go_wp2_with fail
        refine (isOne_any _ _ _ _ _ _ (hIx.out.ext ((Ext.refl _).alloc _))).mono ?_
        rintro e w2 ⟨rfl, hE4⟩
        replace hE4 := ((Ext.refl _).alloc _).trans hE4
        replace hE4 := hide hE4
        go_wp2
        refine ⟨⟨2, by omega, rfl, ⟨b3, A3, n3, c3, hB3.out.ext hE4.out, ?_, hE3.out.trans hE4.out⟩, hB4.out.ext hE4.out⟩, by simp [intOf]⟩
        have e1 : (if (2 : Nat) = 0 then (1 : Int) else if (2 : Nat) = 1 then x else x * y : Int) = zp * y := by rw [hzp.out]; simp
        have := hI3.out.ext hE4.out
        show IsInt w2 _ _ (if (2 : Nat) = 0 then (1 : Int) else if (2 : Nat) = 1 then x else x * y)
        rw [e1, hx1.out, Int.mul_one]
        exact this
      · have hxd : decide (y = 1) = false := by simpa using hx1
        replace hx1 := hide hx1
        by_cases hz1 : zp = 1
        · have hzd : decide (zp = 1) = true := by simpa using hz1
          replace hz1 := hide hz1
          go_wp2_with fail
          refine (isOne_any _ _ _ _ _ _ (hIx.out.ext ((Ext.refl _).alloc _))).mono ?_
          rintro e w2 ⟨rfl, hE4⟩
          obtain ⟨hcell4, hfr4⟩ := hE4.cells
          have s4 := hE4.size
          simp at s4
          replace hE4 := hide hE4
          go_wp2_with fail
          refine (isOne_any _ _ _ _ _ _ (hI3.out.ext (((Ext.refl _).alloc _).trans hE4.out))).mono ?_
          rintro e w3 ⟨rfl, hE5⟩
          clear hcell4 hfr4
          replace hE5 := hide (hE4.out.trans hE5)
          obtain ⟨hcell5, hfr5⟩ := hE5.out.cells
          have s5 := hE5.out.size
          simp at s5
          go_wp2
          have hEw := ((Ext.refl _).alloc _).trans hE5.out
          have hB5 := hB3.out.ext hEw
          have ht := hB5.ty
          refine ⟨⟨2, by omega, rfl, ⟨_, _, _, _, (hB5.set 0 _).set 1 _, ?_, ?_⟩, ?_⟩, by simp [intOf]⟩
          · have e1 : (if (2 : Nat) = 0 then (1 : Int) else if (2 : Nat) = 1 then x else x * y : Int) = zp * y := by rw [hzp.out]; simp
            show IsInt _ _ _ (if (2 : Nat) = 0 then (1 : Int) else if (2 : Nat) = 1 then x else x * y)
            rw [e1, hz1.out, Int.one_mul]
            exact ((hIx.out.ext hEw).set ht (by decide) _).set (ht.set _ _) (by decide) _
          · exact ((hE3.out.trans hEw).set (by show w.heap.size ≤ w1.heap.size; omega) _).set (by show w.heap.size ≤ w1.heap.size; omega) _
          · exact ((hB4.out.ext hEw).far (by simp; omega) _).far (by simp; omega) _
        · have hzd : decide (zp = 1) = false := by simpa using hz1
          replace hz1 := hide hz1
          go_wp2_with fail
          refine (isOne_any _ _ _ _ _ _ (hIx.out.ext ((Ext.refl _).alloc _))).mono ?_
          rintro e w2 ⟨rfl, hE4⟩
          obtain ⟨hcell4, hfr4⟩ := hE4.cells
          have s4 := hE4.size
          simp at s4
          replace hE4 := hide hE4
          go_wp2_with fail
          refine (isOne_any _ _ _ _ _ _ (hI3.out.ext (((Ext.refl _).alloc _).trans hE4.out))).mono ?_
          rintro e w3 ⟨rfl, hE5⟩
          clear hcell4 hfr4
          replace hE5 := hide (hE4.out.trans hE5)
          obtain ⟨hcell5, hfr5⟩ := hE5.out.cells
          have s5 := hE5.out.size
          simp at s5
          have hEw := ((Ext.refl _).alloc _).trans hE5.out
          replace hEw := hide hEw
          go_wp2_with fail
          refine (mul_any _ _ _ _ _ _ _ _ _ _ _ (hI3.out.ext hEw.out) (hIx.out.ext hEw.out) (by rw [hzp.out]; exact hn.out) hn'.out).mono ?_
          rintro e w4 ⟨b6, A6, n6, c6, rfl, hI6, hE6⟩
          clear hcell5 hfr5
          have hE7 := hide (hE5.out.trans hE6)
          replace hEw := hide (hEw.out.trans hE6)
          obtain ⟨hcell7, hfr7⟩ := hE7.out.cells
          replace hI6 := hide hI6
          have s7 := hE7.out.size
          simp at s7
          go_wp2
          have hB5 := hB3.out.ext hEw.out
          have ht := hB5.ty
          refine ⟨⟨2, by omega, rfl, ⟨_, _, _, _, (hB5.set 0 _).set 1 _, ?_, ?_⟩, ?_⟩, by simp [intOf]⟩
          · have e1 : (if (2 : Nat) = 0 then (1 : Int) else if (2 : Nat) = 1 then x else x * y : Int) = zp * y := by rw [hzp.out]; simp
            show IsInt _ _ _ (if (2 : Nat) = 0 then (1 : Int) else if (2 : Nat) = 1 then x else x * y)
            rw [e1]
            exact (hI6.out.set ht (by decide) _).set (ht.set _ _) (by decide) _
          · exact ((hE3.out.trans hEw.out).set (by show w.heap.size ≤ w1.heap.size; omega) _).set (by show w.heap.size ≤ w1.heap.size; omega) _
          · exact ((hB4.out.ext hEw.out).far (by simp; omega) _).far (by simp; omega) _
    · obtain ⟨⟨b3, A3, n3, c3, hB3, hI3, hE3⟩, hB4⟩ := hR.out
      have r0 : wr.cell? ⟨w1.heap.size, 0, none⟩ = some (.bool b3) := hB3.cell 0
      have r1 : wr.cell? ⟨w1.heap.size, 1, none⟩ = some (.slice A3 n3 c3) := hB3.cell 1
      have r2 : wr.cell? ⟨w.heap.size, 0, none⟩ = some (.bool false) := hB4.cell 0
      have r3 : wr.cell? ⟨w.heap.size, 1, none⟩ = some (.slice none 0 0) := hB4.cell 1
      have r4 := hB4.frozen 0
      have r5 := hB4.frozen 1
      have ht := hide hB4.ty
      have hZ : Hid ((if (2 : Nat) = 0 then (1 : Int) else if (2 : Nat) = 1 then x else x * y) = x * y) := rfl
      simp only [hZ.out] at hI3
      replace hI3 := hide hI3
      replace hE3 := hide hE3
      clear hR hB3 hB4
      go_wp2
      refine bodyPost_ret (v := .agg #[.bool b3, .slice A3 n3 c3]) (by simp [results, Tryz.results68, go_sem, r2, r3]) rfl ⟨_, _, _, _, rfl, ?_, ?_⟩
      · exact (hI3.out.set ht.out (by decide) _).set (ht.out.set _ _) (by decide) _
      · exact (hE3.out.set (by simp) _).set (by simp) _

end Go.Proofs.YteefhmdameeoaaaGreat
namespace Go.Proofs.YteefhmdameeoaaaGreat
open Go.RowKit

theorem divInt_parts {x y : Int} (hy : 0 < y) : (Rat.divInt x y).num = x / (Nat.gcd x.natAbs y.natAbs : Int) ∧ ((Rat.divInt x y).den : Int) = y / (Nat.gcd x.natAbs y.natAbs : Int) := by
  obtain ⟨d, rfl⟩ := Int.eq_ofNat_of_zero_le (Int.le_of_lt hy)
  have hd : d ≠ 0 := by omega
  have : Rat.divInt x (d : Int) = mkRat x d := rfl
  rw [this, ← Rat.normalize_eq_mkRat hd, Rat.normalize_eq hd]
  exact ⟨rfl, by simp [Int.natCast_ediv]⟩
theorem mul_parts (a b : Rat) : (a * b).num = (Rat.divInt a.num b.den).num * (Rat.divInt b.num a.den).num ∧ (a * b).den = (Rat.divInt a.num b.den).den * (Rat.divInt b.num a.den).den := by
  have h1 := divInt_parts (x := a.num) (y := b.den) (by have := b.den_nz; omega)
  have h2 := divInt_parts (x := b.num) (y := a.den) (by have := a.den_nz; omega)
  have e : a * b = Rat.mul a b := rfl
  rw [e]
  unfold Rat.mul
  dsimp only
  rw [Int.divExact_eq_ediv, Int.divExact_eq_ediv, Nat.divExact_eq_div, Nat.divExact_eq_div]
  refine ⟨by rw [h1.1, h2.1]; rfl, ?_⟩
  have e1 : (Rat.divInt a.num b.den).den = b.den / Nat.gcd a.num.natAbs b.den := by
    have := h1.2; simp at this; exact_mod_cast this
  have e2 : (Rat.divInt b.num a.den).den = a.den / Nat.gcd b.num.natAbs a.den := by
    have := h2.2; simp at this; exact_mod_cast this
  rw [e1, e2, Nat.mul_comm]
theorem add_parts (a b : Rat) : a + b = Rat.divInt (a.num * b.den + b.num * a.den) ((a.den : Int) * b.den) := by
  rw [Rat.add_def, Rat.normalize_eq_mkRat]
  have : ((a.den : Int) * b.den) = ((a.den * b.den : Nat) : Int) := by simp
  rw [this]; rfl
theorem inv_pos_parts (a : Rat) (h : 0 < a.num) : a⁻¹.num = a.den ∧ (a⁻¹.den : Int) = a.num := by
  rw [Rat.inv_def]
  have h1 := divInt_parts (x := a.den) (y := a.num) h
  have h2 : Nat.gcd ((a.den : Int).natAbs) a.num.natAbs = 1 := by simpa [Nat.gcd_comm] using a.reduced.symm
  rw [h2] at h1
  simpa using h1
theorem inv_neg_parts (a : Rat) (h : a.num < 0) : a⁻¹.num = -(a.den : Int) ∧ (a⁻¹.den : Int) = -a.num := by
  rw [Rat.inv_def, ← Rat.neg_divInt_neg]
  have h1 := divInt_parts (x := -(a.den : Int)) (y := -a.num) (by omega)
  have h2 : Nat.gcd ((-(a.den : Int)).natAbs) (-a.num).natAbs = 1 := by simpa [Nat.gcd_comm] using a.reduced.symm
  rw [h2] at h1
  simpa using h1
theorem divInt_one (x : Int) : (Rat.divInt x 1).num = x ∧ ((Rat.divInt x 1).den : Int) = 1 := by
  have h1 := divInt_parts (x := x) (y := 1) (by omega)
  simpa using h1
theorem divInt_coprime {x y : Int} (hy : 0 < y) (h : Nat.gcd x.natAbs y.natAbs = 1) : (Rat.divInt x y).num = x ∧ ((Rat.divInt x y).den : Int) = y := by
  have h1 := divInt_parts (x := x) hy
  rw [h] at h1
  simpa using h1

/-- Four values read as a rational number, in its canonical form. -/
def IsRat (w : World) (c0 c1 c2 c3 : Value) (q : Rat) : Prop := IsInt w c0 c1 q.num ∧ IsInt w c2 c3 (q.den : Int)
theorem IsRat.ext {w w' : World} {c0 c1 c2 c3 : Value} {q : Rat} (h : IsRat w c0 c1 c2 c3 q) (he : Ext w w') : IsRat w' c0 c1 c2 c3 q := ⟨h.1.ext he, h.2.ext he⟩
theorem IsRat.set {w : World} {c0 c1 c2 c3 : Value} {q : Rat} (h : IsRat w c0 c1 c2 c3 q) {p : Addr} {t : TypeId} (ht : Ty w p.block t) (hne : t ≠ 105) (u : Value) : IsRat (w.setCell p u) c0 c1 c2 c3 q := ⟨h.1.set ht hne u, h.2.set ht hne u⟩

/-- Two, four cells of a block written. -/
def put2 (w : World) (b : Nat) (u0 u1 : Value) : World := (w.setCell ⟨b, 0, none⟩ u0).setCell ⟨b, 1, none⟩ u1
def put4 (w : World) (b : Nat) (u0 u1 u2 u3 : Value) : World := (((w.setCell ⟨b, 0, none⟩ u0).setCell ⟨b, 1, none⟩ u1).setCell ⟨b, 2, none⟩ u2).setCell ⟨b, 3, none⟩ u3
theorem put2_eq (w : World) (b : Nat) (u0 u1 : Value) : (w.setCell ⟨b, 0, none⟩ u0).setCell ⟨b, 1, none⟩ u1 = put2 w b u0 u1 := rfl
theorem put4_eq (w : World) (b : Nat) (u0 u1 u2 u3 : Value) : (put2 w b u0 u1 |>.setCell ⟨b, 2, none⟩ u2).setCell ⟨b, 3, none⟩ u3 = put4 w b u0 u1 u2 u3 := rfl
theorem Ty.put2 {w : World} {b : Nat} {t : TypeId} (h : Ty w b t) (c : Nat) (u0 u1 : Value) : Ty (put2 w c u0 u1) b t := (h.set _ _).set _ _
theorem Ty.put4 {w : World} {b : Nat} {t : TypeId} (h : Ty w b t) (c : Nat) (u0 u1 u2 u3 : Value) : Ty (put4 w c u0 u1 u2 u3) b t := (((h.set _ _).set _ _).set _ _).set _ _
theorem IsInt.put2 {w : World} {c0 c1 : Value} {z : Int} (h : IsInt w c0 c1 z) {b : Nat} {t : TypeId} (ht : Ty w b t) (hne : t ≠ 105) (u0 u1 : Value) : IsInt (put2 w b u0 u1) c0 c1 z := (h.set (p := ⟨b, 0, none⟩) ht hne _).set (p := ⟨b, 1, none⟩) (ht.set _ _) hne _
theorem IsInt.put4 {w : World} {c0 c1 : Value} {z : Int} (h : IsInt w c0 c1 z) {b : Nat} {t : TypeId} (ht : Ty w b t) (hne : t ≠ 105) (u0 u1 u2 u3 : Value) : IsInt (put4 w b u0 u1 u2 u3) c0 c1 z :=
  ((((h.set (p := ⟨b, 0, none⟩) ht hne _).set (p := ⟨b, 1, none⟩) (ht.set _ _) hne _).set (p := ⟨b, 2, none⟩) ((ht.set _ _).set _ _) hne _).set (p := ⟨b, 3, none⟩) (((ht.set _ _).set _ _).set _ _) hne _)
theorem IsRat.put2 {w : World} {c0 c1 c2 c3 : Value} {q : Rat} (h : IsRat w c0 c1 c2 c3 q) {b : Nat} {t : TypeId} (ht : Ty w b t) (hne : t ≠ 105) (u0 u1 : Value) : IsRat (put2 w b u0 u1) c0 c1 c2 c3 q := ⟨h.1.put2 ht hne u0 u1, h.2.put2 ht hne u0 u1⟩
theorem IsRat.put4 {w : World} {c0 c1 c2 c3 : Value} {q : Rat} (h : IsRat w c0 c1 c2 c3 q) {b : Nat} {t : TypeId} (ht : Ty w b t) (hne : t ≠ 105) (u0 u1 u2 u3 : Value) : IsRat (put4 w b u0 u1 u2 u3) c0 c1 c2 c3 q := ⟨h.1.put4 ht hne u0 u1 u2 u3, h.2.put4 ht hne u0 u1 u2 u3⟩
theorem Ext.put2 {w w1 : World} (h : Ext w w1) {b : Nat} (hb : w.heap.size ≤ b) (u0 u1 : Value) : Ext w (put2 w1 b u0 u1) := (h.set (p := ⟨b, 0, none⟩) hb _).set (p := ⟨b, 1, none⟩) hb _
theorem Ext.put4 {w w1 : World} (h : Ext w w1) {b : Nat} (hb : w.heap.size ≤ b) (u0 u1 u2 u3 : Value) : Ext w (put4 w1 b u0 u1 u2 u3) := (((h.set (p := ⟨b, 0, none⟩) hb _).set (p := ⟨b, 1, none⟩) hb _).set (p := ⟨b, 2, none⟩) hb _).set (p := ⟨b, 3, none⟩) hb _

/-- The call returns a rational number. -/
def RetRat (q : Rat) (w : World) (e : Ending) (w' : World) : Prop :=
  ∃ (b b' : Bool) (A A' : Option Addr) (n c n' c' : Nat), e = .returned (.agg #[.bool b, .slice A n c, .bool b', .slice A' n' c']) ∧ IsRat w' (.bool b) (.slice A n c) (.bool b') (.slice A' n' c') q ∧ Ext w w'

/-- Numerator and denominator have at most so many words. -/
def RSz (q : Rat) (N : Nat) : Prop := (digs q.num.natAbs).length ≤ N ∧ (digs q.den).length ≤ N

theorem RSz.mono {q : Rat} {N M : Nat} (h : RSz q N) (hm : N ≤ M) : RSz q M := ⟨Nat.le_trans h.1 hm, Nat.le_trans h.2 hm⟩

theorem natAbs_ediv_le (x : Int) (g : Nat) (hg : (g : Int) ∣ x) : (x / (g : Int)).natAbs ≤ x.natAbs := by
  obtain ⟨k, rfl⟩ := hg
  rcases Nat.eq_zero_or_pos g with h | h
  · subst h; simp
  · rw [Int.mul_ediv_cancel_left _ (by omega), Int.natAbs_mul]
    exact Nat.le_mul_of_pos_left _ (by simpa using h)

theorem divInt_le {x y : Int} (hy : 0 < y) : (Rat.divInt x y).num.natAbs ≤ x.natAbs ∧ (Rat.divInt x y).den ≤ y.natAbs := by
  have h := divInt_parts (x := x) hy
  have h1 : ((Nat.gcd x.natAbs y.natAbs : Nat) : Int) ∣ x := Int.ofNat_dvd_left.2 (Nat.gcd_dvd_left _ _)
  have h2 : ((Nat.gcd x.natAbs y.natAbs : Nat) : Int) ∣ y := Int.ofNat_dvd_left.2 (Nat.gcd_dvd_right _ _)
  refine ⟨by rw [h.1]; exact natAbs_ediv_le _ _ h1, ?_⟩
  have := natAbs_ediv_le _ _ h2
  rw [← h.2] at this
  simpa using this

theorem RSz.divInt {x y : Int} {N : Nat} (hy : 0 < y) (hx : (digs x.natAbs).length ≤ N) (hyn : (digs y.natAbs).length ≤ N) : RSz (Rat.divInt x y) N :=
  ⟨digs_len_of_le (divInt_le hy).1 hx, digs_len_of_le (divInt_le hy).2 hyn⟩

theorem den_pos (q : Rat) : (0 : Int) < q.den := by have := q.den_nz; omega

theorem RSz.neg {q : Rat} {N : Nat} (h : RSz q N) : RSz (-q) N := by
  have h1 : (-q).num = -q.num := rfl
  have h2 : (-q).den = q.den := rfl
  exact ⟨by rw [h1, Int.natAbs_neg]; exact h.1, by rw [h2]; exact h.2⟩

theorem RSz.mul {p q : Rat} {N M : Nat} (hp : RSz p N) (hq : RSz q M) : RSz (p * q) (N + M) := by
  have h := mul_parts p q
  have l := divInt_le (x := p.num) (den_pos q)
  have r := divInt_le (x := q.num) (den_pos p)
  simp only [Int.natAbs_natCast] at l r
  constructor
  · rw [h.1]
    exact len_mul (digs_len_of_le l.1 hp.1) (digs_len_of_le r.1 hq.1)
  · rw [h.2]
    have := len_mul (x := ((Rat.divInt p.num q.den).den : Int)) (y := ((Rat.divInt q.num p.den).den : Int)) (N := M) (M := N) (by simpa using digs_len_of_le l.2 hq.2) (by simpa using digs_len_of_le r.2 hp.2)
    rw [Int.natAbs_mul] at this
    simpa [Nat.add_comm] using this

theorem len_add {x y : Int} {N : Nat} (hx : (digs x.natAbs).length ≤ N) (hy : (digs y.natAbs).length ≤ N) : (digs (x + y).natAbs).length ≤ N + 1 := by
  have h1 := lt_of_digs hx
  have h2 := lt_of_digs hy
  refine len_of_lt ?_
  have h3 := Int.natAbs_add_le x y
  have h4 : 2 * BB ^ N ≤ BB ^ N * BB := by rw [Nat.mul_comm]; exact Nat.mul_le_mul_left _ (by decide)
  rw [Nat.pow_succ]
  omega

theorem len_den (q : Rat) {N : Nat} (h : RSz q N) : (digs (q.den : Int).natAbs).length ≤ N := by simpa using h.2

theorem RSz.add {p q : Rat} {N M : Nat} (hp : RSz p N) (hq : RSz q M) : RSz (p + q) (N + M + 1) := by
  rw [add_parts]
  refine RSz.divInt (Int.mul_pos (den_pos p) (den_pos q)) ?_ ?_
  · refine len_add (len_mul hp.1 (len_den q hq)) ?_
    have := len_mul hq.1 (len_den p hp)
    rwa [Nat.add_comm] at this
  · exact Nat.le_trans (len_mul (len_den p hp) (len_den q hq)) (by omega)

theorem RSz.inv {q : Rat} {N : Nat} (h : RSz q N) (h0 : q.num ≠ 0) : RSz q⁻¹ N := by
  rcases Int.lt_or_gt_of_ne h0 with hn | hp
  · obtain ⟨e1, e2⟩ := inv_neg_parts q hn
    have e3 : q⁻¹.den = q.num.natAbs := by omega
    exact ⟨by rw [e1, Int.natAbs_neg]; exact len_den q h, by rw [e3]; exact h.1⟩
  · obtain ⟨e1, e2⟩ := inv_pos_parts q hp
    have e3 : q⁻¹.den = q.num.natAbs := by omega
    exact ⟨by rw [e1]; exact len_den q h, by rw [e3]; exact h.1⟩

end Go.Proofs.YteefhmdameeoaaaGreat
namespace Go.Proofs.YteefhmdameeoaaaGreat
open Go.RowKit

set_option maxRecDepth 100000 in
set_option maxHeartbeats 2000000 in
theorem lowest_any (b b' : Bool) (A A' : Option Addr) (n c n' c' : Nat) (x y : Int) (w : World) (h : IsInt w (.bool b) (.slice A n c) x) (h' : IsInt w (.bool b') (.slice A' n' c') y) (hn : (digs x.natAbs).length ≤ 4398046511104) (hn' : (digs y.natAbs).length ≤ 4398046511104) (hy : 0 < y) :
    Calls Tryz.prog 67 #[.agg #[.bool b, .slice A n c], .agg #[.bool b', .slice A' n' c']] w (RetRat (Rat.divInt x y) w) := by
  replace h := hide h
  replace h' := hide h'
  replace hn := hide hn
  replace hn' := hide hn'
  replace hy := hide hy
  by_cases hy1 : y = 1
  · have hyd : decide (y = 1) = true := by simpa using hy1
    replace hy1 := hide hy1
    go_enter Tryz.func67, Tryz.ntmps67
    go_wp2_with fail
    refine (isOne_any _ _ _ _ _ _ (h'.out.ext ((((Ext.refl _).alloc _).alloc _).alloc _))).mono ?_
    rintro e w1 ⟨rfl, hE1⟩
    obtain ⟨hcell, hfr⟩ := hE1.cells
    replace hE1 := hide hE1
    go_wp2
    have hEw := ((((Ext.refl w).alloc _).alloc _).alloc _).trans hE1.out
    have ht : Ty w1 (w.heap.size + 2) 74 := (Ty.new' _ _ (by simp)).ext hE1.out
    refine bodyPost_ret (v := .agg #[.bool b, .slice A n c, .bool b', .slice A' n' c']) (by simp [results, Tryz.results67, go_sem, hcell]) rfl ⟨_, _, _, _, _, _, _, _, rfl, ?_, ?_⟩
    · have hq : IsRat w1 (.bool b) (.slice A n c) (.bool b') (.slice A' n' c') (Rat.divInt x y) := by
        rw [hy1.out]
        refine ⟨by rw [(divInt_one x).1]; exact h.out.ext hEw, by rw [(divInt_one x).2, ← hy1.out]; exact h'.out.ext hEw⟩
      exact (((hq.set ht (by decide) _).set (ht.set _ _) (by decide) _).set ((ht.set _ _).set _ _) (by decide) _).set (((ht.set _ _).set _ _).set _ _) (by decide) _
    · exact (((hEw.set (by simp <;> omega) _).set (by simp <;> omega) _).set (by simp <;> omega) _).set (by simp <;> omega) _
  · have hyd : decide (y = 1) = false := by simpa using hy1
    replace hy1 := hide hy1
    have hgpos : Hid (Nat.gcd x.natAbs y.natAbs ≠ 0) := by
      have := hy.out
      show _ ≠ 0
      intro e
      have := Nat.eq_zero_of_gcd_eq_zero_right e
      omega
    have hgl : Hid ((digs (Nat.gcd x.natAbs y.natAbs)).length ≤ 4398046511104) := digs_len_of_le (Nat.le_of_dvd (by have := hy.out; omega) (Nat.gcd_dvd_right _ _)) hn'.out
    go_enter Tryz.func67, Tryz.ntmps67
    go_wp2_with fail
    refine (isOne_any _ _ _ _ _ _ (h'.out.ext ((((Ext.refl _).alloc _).alloc _).alloc _))).mono ?_
    rintro e w1 ⟨rfl, hE1⟩
    obtain ⟨hcell, hfr⟩ := hE1.cells
    have s1 := hE1.size
    simp at s1
    replace hE1 := hide hE1
    go_wp2_with fail
    refine (gcd_any _ _ _ _ _ _ _ _ _ _ _ (h.out.ext (((((Ext.refl _).alloc _).alloc _).alloc _).trans hE1.out)) (h'.out.ext (((((Ext.refl _).alloc _).alloc _).alloc _).trans hE1.out)) hn.out hn'.out).mono ?_
    rintro e w2 ⟨b2, A2, n2, c2, rfl, hI2, hE2⟩
    replace hE2 := hide (hE1.out.trans hE2)
    replace hI2 := hide hI2
    clear hcell hfr
    obtain ⟨hcell, hfr⟩ := hE2.out.cells
    have s2 := hE2.out.size
    simp at s2
    by_cases hg1 : ((Nat.gcd x.natAbs y.natAbs : Nat) : Int) = 1
    · have hgd : decide (((Nat.gcd x.natAbs y.natAbs : Nat) : Int) = 1) = true := by simpa using hg1
      replace hg1 := hide hg1
      go_wp2_with fail
      refine (isOne_any _ _ _ _ _ _ (hI2.out.ext ((Ext.refl _).alloc _))).mono ?_
      rintro e w3 ⟨rfl, hE3⟩
      rw [hgd]
      replace hE3 := hide (hE2.out.trans (((Ext.refl _).alloc _).trans hE3))
      clear hcell hfr
      obtain ⟨hcell, hfr⟩ := hE3.out.cells
      go_wp2
      have hEw := ((((Ext.refl w).alloc _).alloc _).alloc _).trans hE3.out
      have ht : Ty w3 (w.heap.size + 2) 74 := (Ty.new' _ _ (by simp)).ext hE3.out
      refine bodyPost_ret (v := .agg #[.bool b, .slice A n c, .bool b', .slice A' n' c']) (by simp [results, Tryz.results67, go_sem, hcell]) rfl ⟨_, _, _, _, _, _, _, _, rfl, ?_, ?_⟩
      · have hq : IsRat w3 (.bool b) (.slice A n c) (.bool b') (.slice A' n' c') (Rat.divInt x y) := by
          have hc := divInt_coprime (x := x) hy.out (by have := hg1.out; omega)
          refine ⟨by rw [hc.1]; exact h.out.ext hEw, by rw [hc.2]; exact h'.out.ext hEw⟩
        exact (((hq.set ht (by decide) _).set (ht.set _ _) (by decide) _).set ((ht.set _ _).set _ _) (by decide) _).set (((ht.set _ _).set _ _).set _ _) (by decide) _
      · exact (((hEw.set (by simp <;> omega) _).set (by simp <;> omega) _).set (by simp <;> omega) _).set (by simp <;> omega) _
    · have hgd : decide (((Nat.gcd x.natAbs y.natAbs : Nat) : Int) = 1) = false := by simpa using hg1
      replace hg1 := hide hg1
      go_wp2_with fail
      refine (isOne_any _ _ _ _ _ _ (hI2.out.ext ((Ext.refl _).alloc _))).mono ?_
      rintro e w3 ⟨rfl, hE3⟩
      rw [hgd]
      clear hcell hfr
      have hg3 : Blk w3 w2.heap.size 72 #[.bool b2, .slice A2 n2 c2] := (Blk.new _ _ _).ext hE3
      replace hI2 := hide (hI2.out.ext (((Ext.refl _).alloc _).trans hE3))
      replace hE3 := hide (hE2.out.trans (((Ext.refl _).alloc _).trans hE3))
      obtain ⟨hcell, hfr⟩ := hE3.out.cells
      have g0 : w3.cell? ⟨w2.heap.size, 0, none⟩ = some (.bool b2) := hg3.cell 0
      have g1 : w3.cell? ⟨w2.heap.size, 1, none⟩ = some (.slice A2 n2 c2) := hg3.cell 1
      replace hg3 := hide hg3
      have hEw := hide (((((Ext.refl w).alloc _).alloc _).alloc _).trans hE3.out)
      go_wp2_with fail
      refine (divmod_any _ _ _ _ _ _ _ _ _ _ _ (h.out.ext hEw.out) hI2.out hn.out (by simpa using hgl.out) (by simpa using hgpos.out)).mono ?_
      rintro e w4 ⟨b4, b5, A4, A5, n4, c4, n5, c5, rfl, hq4, hr4, hE4⟩
      clear hcell hfr g0 g1 hr4
      have hg4 := hg3.out.ext hE4
      replace hI2 := hide (hI2.out.ext hE4)
      replace hE4 := hide (hE3.out.trans hE4)
      obtain ⟨hcell, hfr⟩ := hE4.out.cells
      have g0 : w4.cell? ⟨w2.heap.size, 0, none⟩ = some (.bool b2) := hg4.cell 0
      have g1 : w4.cell? ⟨w2.heap.size, 1, none⟩ = some (.slice A2 n2 c2) := hg4.cell 1
      have s4 := Blk.lt hg4
      replace hq4 := hide hq4
      replace hg4 := hide hg4
      have e2 : Blk w4 w.heap.size 72 #[.bool b, .slice A n c] := (((Blk.new w _ _).alloc _).alloc _).ext hE4.out
      have e3 : Blk w4 (w.heap.size + 1) 72 #[.bool b', .slice A' n' c'] := ((Blk.new' _ _ (by simp)).alloc _).ext hE4.out
      have e4 : Blk w4 (w.heap.size + 2) 74 #[.bool false, .slice none 0 0, .bool false, .slice none 0 0] := (Blk.new' _ _ (by simp)).ext hE4.out
      replace e2 := hide e2
      replace e3 := hide e3
      replace e4 := hide e4
      go_wp2_with fail
      have t2 := e2.out.ty
      have f2 := (e2.out.set 0 (.bool b4)).set 1 (.slice A4 n4 c4)
      have f3 := (e3.out.far (p := ⟨w.heap.size, 0, none⟩) (by simp) (.bool b4)).far (p := ⟨w.heap.size, 1, none⟩) (by simp) (.slice A4 n4 c4)
      have f4 := (e4.out.far (p := ⟨w.heap.size, 0, none⟩) (by simp) (.bool b4)).far (p := ⟨w.heap.size, 1, none⟩) (by simp) (.slice A4 n4 c4)
      have hEw4 := ((((Ext.refl w).alloc _).alloc _).alloc _).trans hE4.out
      have fE := (hEw4.set (p := ⟨w.heap.size, 0, none⟩) (Nat.le_refl _) (.bool b4)).set (p := ⟨w.heap.size, 1, none⟩) (Nat.le_refl _) (.slice A4 n4 c4)
      have fq := (hq4.out.set (p := ⟨w.heap.size, 0, none⟩) t2 (by decide) (.bool b4)).set (p := ⟨w.heap.size, 1, none⟩) (t2.set _ _) (by decide) (.slice A4 n4 c4)
      have fg := (hI2.out.set (p := ⟨w.heap.size, 0, none⟩) t2 (by decide) (.bool b4)).set (p := ⟨w.heap.size, 1, none⟩) (t2.set _ _) (by decide) (.slice A4 n4 c4)
      have fy := ((h'.out.ext hEw4).set (p := ⟨w.heap.size, 0, none⟩) t2 (by decide) (.bool b4)).set (p := ⟨w.heap.size, 1, none⟩) (t2.set _ _) (by decide) (.slice A4 n4 c4)
      generalize (w4.setCell ⟨w.heap.size, 0, none⟩ (.bool b4)).setCell ⟨w.heap.size, 1, none⟩ (.slice A4 n4 c4) = w5 at f2 f3 f4 fE fq fg fy ⊢
      clear hcell hfr g0 g1 e2 e3 e4 hE4 hg4 hI2 hq4 hEw4 t2
      refine (divmod_any _ _ _ _ _ _ _ _ _ _ _ fy fg hn'.out (by simpa using hgl.out) (by simpa using hgpos.out)).mono ?_
      rintro e w6 ⟨b6, b7, A6, A7, n6, c6, n7, c7, rfl, hq6, hr6, hE6⟩
      replace f2 := f2.ext hE6
      replace f3 := f3.ext hE6
      replace f4 := f4.ext hE6
      replace fq := fq.ext hE6
      replace fE := fE.trans hE6
      have k0 : w6.cell? ⟨w.heap.size, 0, none⟩ = some (.bool b4) := f2.cell 0
      have k1 : w6.cell? ⟨w.heap.size, 1, none⟩ = some (.slice A4 n4 c4) := f2.cell 1
      have k2 : w6.cell? ⟨w.heap.size + 1, 0, none⟩ = some (.bool b') := f3.cell 0
      have k3 : w6.cell? ⟨w.heap.size + 1, 1, none⟩ = some (.slice A' n' c') := f3.cell 1
      have k4 := f3.frozen 0
      have k5 := f3.frozen 1
      have k6 : w6.cell? ⟨w.heap.size + 2, 0, none⟩ = some (.bool false) := f4.cell 0
      have k7 : w6.cell? ⟨w.heap.size + 2, 1, none⟩ = some (.slice none 0 0) := f4.cell 1
      have k8 : w6.cell? ⟨w.heap.size + 2, 2, none⟩ = some (.bool false) := f4.cell 2
      have k9 : w6.cell? ⟨w.heap.size + 2, 3, none⟩ = some (.slice none 0 0) := f4.cell 3
      have l0 := f4.frozen 0
      have l1 := f4.frozen 1
      have l2 := f4.frozen 2
      have l3 := f4.frozen 3
      have t3 := hide f3.ty
      have t4 := hide f4.ty
      replace fq := hide fq
      replace hq6 := hide hq6
      replace fE := hide fE
      clear f2 f3 f4 fg fy hr6 hE6
      go_wp2
      refine bodyPost_ret (v := .agg #[.bool b4, .slice A4 n4 c4, .bool b6, .slice A6 n6 c6]) (by simp [results, Tryz.results67, go_sem, k6, k7, k8, k9]) rfl ⟨_, _, _, _, _, _, _, _, rfl, ?_, ?_⟩
      · have hq : IsRat w6 (.bool b4) (.slice A4 n4 c4) (.bool b6) (.slice A6 n6 c6) (Rat.divInt x y) := by
          have hc := divInt_parts (x := x) hy.out
          exact ⟨by rw [hc.1]; exact fq.out, by rw [hc.2]; exact hq6.out⟩
        exact (hq.put2 (b := w.heap.size + 1) t3.out (by decide) (.bool b6) (.slice A6 n6 c6)).put4 (b := w.heap.size + 2) (t4.out.put2 _ _ _) (by decide) (.bool b4) (.slice A4 n4 c4) (.bool b6) (.slice A6 n6 c6)
      · exact (fE.out.put2 (b := w.heap.size + 1) (by omega) (.bool b6) (.slice A6 n6 c6)).put4 (b := w.heap.size + 2) (by omega) (.bool b4) (.slice A4 n4 c4) (.bool b6) (.slice A6 n6 c6)

end Go.Proofs.YteefhmdameeoaaaGreat
namespace Go.Proofs.YteefhmdameeoaaaGreat
open Go.RowKit

theorem num_intCast (z : Int) : ((z : Rat)).num = z := rfl
theorem den_intCast (z : Int) : ((z : Rat)).den = 1 := rfl
theorem neg_num (q : Rat) : (-q).num = -q.num := rfl
theorem neg_den (q : Rat) : (-q).den = q.den := rfl

set_option maxRecDepth 100000 in
set_option maxHeartbeats 800000 in
theorem whole_any (b : Bool) (A : Option Addr) (n c : Nat) (z : Int) (w : World) (h : IsInt w (.bool b) (.slice A n c) z) :
    Calls Tryz.prog 61 #[.agg #[.bool b, .slice A n c]] w (RetRat (z : Rat) w) := by
  replace h := hide h
  go_enter Tryz.func61, Tryz.ntmps61
  go_wp2
  refine wp_region_v (by kernel_rfl) [[], [], [(3, 0), (4, 1)]] [[], [], [0, 1]]
    [fun v _ => v = .agg #[.bool b, .slice A n c], fun v w' => ∃ b A n c, v = .agg #[.bool b, .slice A n c] ∧ IsInt w' (.bool b) (.slice A n c) (1), fun v w' => ∃ b A n c b' A' n' c', v = .agg #[.bool b, .slice A n c, .bool b', .slice A' n' c'] ∧ IsRat w' (.bool b) (.slice A n c) (.bool b') (.slice A' n' c') ((z : Rat))]
    rfl (by kernel_rfl) (by kernel_rfl) ?stab ?steps ?fin
  case stab => exact .cons (Stab.eq _) (.cons (fun _ _ _ he ⟨b, A, n, c, h1, h2⟩ => ⟨b, A, n, c, h1, h2.ext he⟩) (.cons (fun _ _ _ he ⟨b, A, n, c, b', A', n', c', h1, h2⟩ => ⟨b, A, n, c, b', A', n', c', h1, h2.ext he⟩) .nil))
  case steps =>
    refine .cons ?s0 (.cons ?s1 (.cons ?s2 .nil))
    case s0 =>
      intro w' ev hE hk ha hc hf
      have e1 : ev (.tmp 1) = .pointer (some ⟨w.heap.size, 0, none⟩) := ha 1 (by decide)
      have c0 : w'.cell? ⟨w.heap.size, 0, none⟩ = some (.bool b) := hE.cellv (((Blk.new _ _ _).alloc _).drew.cell 0)
      have c1 : w'.cell? ⟨w.heap.size, 1, none⟩ = some (.slice A n c) := hE.cellv (((Blk.new _ _ _).alloc _).drew.cell 1)
      exact opStep_val (by simp [execOp, e1, c0, c1, go_sem]) rfl
    case s1 =>
      intro w' ev hE hk ha hc hf
      refine opStep_call (by simp [execOp, resolve, invoke, hf, hc, go_sem]) (of_any 1 _ (by omega) (by omega)) ?_
      rintro e w1 ⟨b1, A1, n1, k1, rfl, hI1, hE1⟩
      exact ⟨_, rfl, hE1, b1, A1, n1, k1, rfl, hI1⟩
    case s2 =>
      intro w' ev hE hk ha hc hf
      have e3 : ev (.tmp 3) = .agg #[.bool b, .slice A n c] := hk.1 _ rfl
      have f4 := hk.2.1 _ rfl
      obtain ⟨b1, A1, n1, c1, e4, hI⟩ := f4
      exact opStep_val (v := .agg #[.bool b, .slice A n c, .bool b1, .slice A1 n1 c1]) (by simp [execOp, e3, e4, go_sem]) ⟨_, _, _, _, _, _, _, _, rfl, h.out.ext ((((Ext.refl _).alloc _).alloc _).drew.trans hE), by rw [den_intCast]; exact hI⟩
  case fin =>
    intro g w' hE hF
    obtain ⟨b5, A5, n5, c5, b6, A6, n6, c6, e5, hI5⟩ := hF 2 _ rfl
    simp only [List.length_cons, List.length_nil, Nat.reduceAdd, List.drop_succ_cons, List.drop_zero, List.take_succ_cons, List.take_zero, putG, Act.put, List.setIfInBounds_toArray, List.set_cons_succ, List.set_cons_zero, e5]
    clear hF e5
    replace hI5 := hide hI5
    obtain ⟨hcell, hfr⟩ := hE.cells
    replace hE := hide hE
    go_wp2
    refine bodyPost_ret (v := .agg #[.bool b5, .slice A5 n5 c5, .bool b6, .slice A6 n6 c6]) (by simp [results, Tryz.results61, go_sem, hcell]) rfl ⟨_, _, _, _, _, _, _, _, rfl, ?_, ?_⟩
    · have ht : Ty w' (w.heap.size + 1) 74 := (Ty.new' _ _ (by simp)).drew.ext hE.out
      exact hI5.out.put4 (b := w.heap.size + 1) ht (by decide) (.bool b5) (.slice A5 n5 c5) (.bool b6) (.slice A6 n6 c6)
    · exact ((((Ext.refl _).alloc _).alloc _).drew.trans hE.out).put4 (b := w.heap.size + 1) (by omega) (.bool b5) (.slice A5 n5 c5) (.bool b6) (.slice A6 n6 c6)

set_option maxRecDepth 100000 in
set_option maxHeartbeats 800000 in
theorem Whole_any (z : Int) (w : World) (h0 : -9223372036854775808 ≤ z) (h1 : z ≤ 9223372036854775807) :
    Calls Tryz.prog 47 #[.int .i64 z] w (RetRat (z : Rat) w) := by
  go_enter Tryz.func47, Tryz.ntmps47
  go_wp2_with fail
  refine (of_any z _ h0 h1).mono ?_
  rintro e w1 ⟨b1, A1, n1, c1, rfl, hI1, hE1⟩
  replace hE1 := hide hE1
  go_wp2_with fail
  refine (whole_any _ _ _ _ _ _ hI1).mono ?_
  rintro e w2 ⟨b2, b3, A2, A3, n2, c2, n3, c3, rfl, hI2, hE2⟩
  replace hE2 := hide (hE1.out.trans hE2)
  replace hI2 := hide hI2
  clear hI1 hE1
  obtain ⟨hcell, hfr⟩ := hE2.out.cells
  go_wp2
  refine bodyPost_ret (v := .agg #[.bool b2, .slice A2 n2 c2, .bool b3, .slice A3 n3 c3]) (by simp [results, Tryz.results47, go_sem, hcell]) rfl ⟨_, _, _, _, _, _, _, _, rfl, ?_, ?_⟩
  · have ht : Ty w2 w.heap.size 74 := (Ty.new _ _ _).ext hE2.out
    exact hI2.out.put4 ht (by decide) _ _ _ _
  · exact (((Ext.refl _).alloc _).trans hE2.out).put4 (Nat.le_refl _) _ _ _ _

set_option maxRecDepth 100000 in
set_option maxHeartbeats 800000 in
theorem Sign_any (b b' : Bool) (A A' : Option Addr) (n c n' c' : Nat) (p : Rat) (w : World) (h : IsRat w (.bool b) (.slice A n c) (.bool b') (.slice A' n' c') p) :
    Calls Tryz.prog 50 #[.agg #[.bool b, .slice A n c, .bool b', .slice A' n' c']] w (fun e w' => e = .returned (.int .i64 p.num.sign) ∧ Ext w w') := by
  replace h := hide h
  go_enter Tryz.func50, Tryz.ntmps50
  go_wp2_with fail
  refine (sign_any _ _ _ _ _ _ (h.out.1.ext ((Ext.refl _).alloc _))).mono ?_
  rintro e w1 ⟨rfl, hE1⟩
  go_wp2
  go_ret
  exact ⟨rfl, ((Ext.refl _).alloc _).trans hE1⟩

set_option maxRecDepth 100000 in
set_option maxHeartbeats 800000 in
theorem Neg_any (b b' : Bool) (A A' : Option Addr) (n c n' c' : Nat) (p : Rat) (w : World) (h : IsRat w (.bool b) (.slice A n c) (.bool b') (.slice A' n' c') p) (hn : (digs p.num.natAbs).length ≤ 4398046511104) :
    Calls Tryz.prog 66 #[.agg #[.bool b, .slice A n c, .bool b', .slice A' n' c']] w (RetRat (-p) w) := by
  replace h := hide h
  replace hn := hide hn
  go_enter Tryz.func66, Tryz.ntmps66
  go_wp2
  refine wp_region_v (by kernel_rfl) [[], [(3, 0)], [(4, 1)], [], [(6, 3)], [(5, 2), (7, 4)]] [[], [0], [0, 1], [], [3], [0, 1, 2, 3, 4]]
    [fun v _ => v = .pointer (some ⟨w.heap.size, 0, none⟩), fun v _ => v = .agg #[.bool b, .slice A n c], fun v w' => ∃ b A n c, v = .agg #[.bool b, .slice A n c] ∧ IsInt w' (.bool b) (.slice A n c) (-p.num), fun v _ => v = .pointer (some ⟨w.heap.size, 2, none⟩), fun v _ => v = .agg #[.bool b', .slice A' n' c'], fun v w' => ∃ b A n c b' A' n' c', v = .agg #[.bool b, .slice A n c, .bool b', .slice A' n' c'] ∧ IsRat w' (.bool b) (.slice A n c) (.bool b') (.slice A' n' c') (-p)]
    rfl (by kernel_rfl) (by kernel_rfl) ?stab ?steps ?fin
  case stab => exact .cons (Stab.eq _) (.cons (Stab.eq _) (.cons (fun _ _ _ he ⟨b, A, n, c, h1, h2⟩ => ⟨b, A, n, c, h1, h2.ext he⟩) (.cons (Stab.eq _) (.cons (Stab.eq _) (.cons (fun _ _ _ he ⟨b, A, n, c, b', A', n', c', h1, h2⟩ => ⟨b, A, n, c, b', A', n', c', h1, h2.ext he⟩) .nil)))))
  case steps =>
    refine .cons ?s0 (.cons ?s1 (.cons ?s2 (.cons ?s3 (.cons ?s4 (.cons ?s5 .nil)))))
    case s0 =>
      intro w' ev hE hk ha hc hf
      have e1 : ev (.tmp 1) = .pointer (some ⟨w.heap.size, 0, none⟩) := ha 1 (by decide)
      exact opStep_val (by simp [execOp, e1, go_sem]) rfl
    case s1 =>
      intro w' ev hE hk ha hc hf
      have e3 : ev (.tmp 3) = .pointer (some ⟨w.heap.size, 0, none⟩) := hk.1 _ rfl
      have c0 : w'.cell? ⟨w.heap.size, 0, none⟩ = some (.bool b) := hE.cellv (((Blk.new _ _ _).alloc _).drew.cell 0)
      have c1 : w'.cell? ⟨w.heap.size, 1, none⟩ = some (.slice A n c) := hE.cellv (((Blk.new _ _ _).alloc _).drew.cell 1)
      exact opStep_val (by simp [execOp, e3, c0, c1, go_sem]) rfl
    case s2 =>
      intro w' ev hE hk ha hc hf
      have e4 : ev (.tmp 4) = .agg #[.bool b, .slice A n c] := hk.1 _ rfl
      refine opStep_call (by simp [execOp, resolve, invoke, hf, e4, go_sem]) (neg_any _ _ _ _ _ _ (h.out.1.ext ((((Ext.refl _).alloc _).alloc _).drew.trans hE)) hn.out) ?_
      rintro e w1 ⟨b1, A1, n1, k1, rfl, hI1, hE1⟩
      exact ⟨_, rfl, hE1, b1, A1, n1, k1, rfl, hI1⟩
    case s3 =>
      intro w' ev hE hk ha hc hf
      have e1 : ev (.tmp 1) = .pointer (some ⟨w.heap.size, 0, none⟩) := ha 1 (by decide)
      exact opStep_val (by simp [execOp, e1, go_sem]) rfl
    case s4 =>
      intro w' ev hE hk ha hc hf
      have e6 : ev (.tmp 6) = .pointer (some ⟨w.heap.size, 2, none⟩) := hk.1 _ rfl
      have c0 : w'.cell? ⟨w.heap.size, 2, none⟩ = some (.bool b') := hE.cellv (((Blk.new _ _ _).alloc _).drew.cell 2)
      have c1 : w'.cell? ⟨w.heap.size, 3, none⟩ = some (.slice A' n' c') := hE.cellv (((Blk.new _ _ _).alloc _).drew.cell 3)
      exact opStep_val (by simp [execOp, e6, c0, c1, go_sem]) rfl
    case s5 =>
      intro w' ev hE hk ha hc hf
      have f5 := hk.1 _ rfl
      have e7 : ev (.tmp 7) = .agg #[.bool b', .slice A' n' c'] := hk.2.1 _ rfl
      obtain ⟨b1, A1, n1, c1, e5, hI⟩ := f5
      exact opStep_val (v := .agg #[.bool b1, .slice A1 n1 c1, .bool b', .slice A' n' c']) (by simp [execOp, e7, e5, go_sem]) ⟨_, _, _, _, _, _, _, _, rfl, by rw [neg_num]; exact hI, by rw [neg_den]; exact h.out.2.ext ((((Ext.refl _).alloc _).alloc _).drew.trans hE)⟩
  case fin =>
    intro g w' hE hF
    obtain ⟨b5, A5, n5, c5, b6, A6, n6, c6, e5, hI5⟩ := hF 5 _ rfl
    simp only [List.length_cons, List.length_nil, Nat.reduceAdd, List.drop_succ_cons, List.drop_zero, List.take_succ_cons, List.take_zero, putG, Act.put, List.setIfInBounds_toArray, List.set_cons_succ, List.set_cons_zero, e5]
    clear hF e5
    replace hI5 := hide hI5
    obtain ⟨hcell, hfr⟩ := hE.cells
    replace hE := hide hE
    go_wp2
    refine bodyPost_ret (v := .agg #[.bool b5, .slice A5 n5 c5, .bool b6, .slice A6 n6 c6]) (by simp [results, Tryz.results66, go_sem, hcell]) rfl ⟨_, _, _, _, _, _, _, _, rfl, ?_, ?_⟩
    · have ht : Ty w' (w.heap.size + 1) 74 := (Ty.new' _ _ (by simp)).drew.ext hE.out
      exact hI5.out.put4 (b := w.heap.size + 1) ht (by decide) (.bool b5) (.slice A5 n5 c5) (.bool b6) (.slice A6 n6 c6)
    · exact ((((Ext.refl _).alloc _).alloc _).drew.trans hE.out).put4 (b := w.heap.size + 1) (by omega) (.bool b5) (.slice A5 n5 c5) (.bool b6) (.slice A6 n6 c6)

set_option maxRecDepth 100000 in
set_option maxHeartbeats 800000 in
theorem Mul_any (b b' : Bool) (A A' : Option Addr) (n c n' c' : Nat) (d d' : Bool) (E E' : Option Addr) (m k m' k' : Nat) (p q : Rat) (N M : Nat) (w : World) (h : IsRat w (.bool b) (.slice A n c) (.bool b') (.slice A' n' c') p) (h' : IsRat w (.bool d) (.slice E m k) (.bool d') (.slice E' m' k') q) (hp : RSz p N) (hq : RSz q M) (hN : N + M ≤ 4398046511104) :
    Calls Tryz.prog 53 #[.agg #[.bool b, .slice A n c, .bool b', .slice A' n' c'], .agg #[.bool d, .slice E m k, .bool d', .slice E' m' k']] w (RetRat (p * q) w) := by
  replace h := hide h
  replace h' := hide h'
  replace hp := hide hp
  replace hq := hide hq
  go_enter Tryz.func53, Tryz.ntmps53
  have l1 : Hid ((digs p.num.natAbs).length ≤ 4398046511104) := Nat.le_trans hp.out.1 (by omega)
  have l2 : Hid ((digs (q.den : Int).natAbs).length ≤ 4398046511104) := Nat.le_trans (len_den q hq.out) (by omega)
  have l3 : Hid ((digs q.num.natAbs).length ≤ 4398046511104) := Nat.le_trans hq.out.1 (by omega)
  have l4 : Hid ((digs (p.den : Int).natAbs).length ≤ 4398046511104) := Nat.le_trans (len_den p hp.out) (by omega)
  have m1 : Hid ((digs (Rat.divInt p.num q.den).num.natAbs).length ≤ 4398046511104) := digs_len_of_le (divInt_le (den_pos q)).1 l1.out
  have m2 : Hid ((digs (Rat.divInt q.num p.den).num.natAbs).length ≤ 4398046511104) := digs_len_of_le (divInt_le (den_pos p)).1 l3.out
  have m3 : Hid ((digs ((Rat.divInt p.num q.den).den : Int).natAbs).length ≤ 4398046511104) := by
    have := digs_len_of_le (divInt_le (x := p.num) (den_pos q)).2 l2.out
    simpa [Hid] using this
  have m4 : Hid ((digs ((Rat.divInt q.num p.den).den : Int).natAbs).length ≤ 4398046511104) := by
    have := digs_len_of_le (divInt_le (x := q.num) (den_pos p)).2 l4.out
    simpa [Hid] using this
  clear hN hp hq
  go_wp2_with fail
  refine (lowest_any _ _ _ _ _ _ _ _ _ _ _ (h.out.1.ext ((((Ext.refl _).alloc _).alloc _).alloc _)) (h'.out.2.ext ((((Ext.refl _).alloc _).alloc _).alloc _)) l1.out l2.out (den_pos q)).mono ?_
  rintro e w1 ⟨b1, b2, A1, A2, n1, c1, n2, c2, rfl, hI1, hE1⟩
  obtain ⟨hcell, hfr⟩ := hE1.cells
  have s1 := hE1.size
  simp at s1
  replace hI1 := hide hI1
  replace hE1 := hide hE1
  have y0 : (w1.alloc (Obj.cells #[.bool b1, .slice A1 n1 c1, .bool b2, .slice A2 n2 c2] 74)).cell? ⟨w.heap.size + 1, 0, none⟩ = some (.bool d) := ((((Blk.new' _ _ (by simp)).alloc _).ext hE1.out).alloc _).cell 0
  have y1 : (w1.alloc (Obj.cells #[.bool b1, .slice A1 n1 c1, .bool b2, .slice A2 n2 c2] 74)).cell? ⟨w.heap.size + 1, 1, none⟩ = some (.slice E m k) := ((((Blk.new' _ _ (by simp)).alloc _).ext hE1.out).alloc _).cell 1
  have y2 : (w1.alloc (Obj.cells #[.bool b1, .slice A1 n1 c1, .bool b2, .slice A2 n2 c2] 74)).cell? ⟨w.heap.size, 2, none⟩ = some (.bool b') := (((((Blk.new _ _ _).alloc _).alloc _).ext hE1.out).alloc _).cell 2
  have y3 : (w1.alloc (Obj.cells #[.bool b1, .slice A1 n1 c1, .bool b2, .slice A2 n2 c2] 74)).cell? ⟨w.heap.size, 3, none⟩ = some (.slice A' n' c') := (((((Blk.new _ _ _).alloc _).alloc _).ext hE1.out).alloc _).cell 3
  clear hcell hfr
  have hX1 := hide (((((Ext.refl _).alloc _).alloc _).alloc _).trans (hE1.out.alloc (Obj.cells #[.bool b1, .slice A1 n1 c1, .bool b2, .slice A2 n2 c2] 74)))
  go_wp2_with fail
  refine (lowest_any _ _ _ _ _ _ _ _ _ _ _ (h'.out.1.ext hX1.out) (h.out.2.ext hX1.out) l3.out l4.out (den_pos p)).mono ?_
  rintro e w2 ⟨b3, b4, A3, A4, n3, c3, n4, c4, rfl, hI3, hE2⟩
  have hB1 : Blk w2 w1.heap.size 74 #[.bool b1, .slice A1 n1 c1, .bool b2, .slice A2 n2 c2] := (Blk.new _ _ _).ext hE2
  replace hI1 := hide (hI1.out.ext (((Ext.refl _).alloc _).trans hE2))
  replace hE2 := hide (((hE1.out.alloc _).trans hE2))
  clear y0 y1 y2 y3
  obtain ⟨hcell, hfr⟩ := hE2.out.cells
  have s2 := Blk.lt hB1
  replace hI3 := hide hI3
  replace hB1 := hide hB1
  clear hE1 hX1 l1 l2 l3 l4
  go_wp2
  refine wp_region_v (by kernel_rfl) [[], [(17, 0)], [], [(19, 2)], [(18, 1), (20, 3)], [(21, 4)], [], [(23, 6)], [], [(25, 8)], [(24, 7), (26, 9)], [(27, 10)], [(22, 5), (28, 11)]] [[], [0], [], [2], [0, 1, 2, 3], [0, 1, 2, 3, 4], [], [6], [], [8], [6, 7, 8, 9], [0, 1, 2, 3, 4, 5, 6, 7, 8, 9, 10], [0, 1, 2, 3, 4, 5, 6, 7, 8, 9, 10, 11]]
    [fun v _ => v = .pointer (some ⟨w1.heap.size, 0, none⟩), fun v _ => v = .agg #[.bool b1, .slice A1 n1 c1], fun v _ => v = .pointer (some ⟨w2.heap.size, 0, none⟩), fun v _ => v = .agg #[.bool b3, .slice A3 n3 c3], fun v w' => ∃ g, v = .slice (some ⟨g, 0, none⟩) 2 2 ∧ Blk w' g 72 #[.bool b1, .slice A1 n1 c1, .bool b3, .slice A3 n3 c3], fun v w' => ∃ b A n c, v = .agg #[.bool b, .slice A n c] ∧ IsInt w' (.bool b) (.slice A n c) ((Rat.divInt p.num q.den).num * (Rat.divInt q.num p.den).num), fun v _ => v = .pointer (some ⟨w1.heap.size, 2, none⟩), fun v _ => v = .agg #[.bool b2, .slice A2 n2 c2], fun v _ => v = .pointer (some ⟨w2.heap.size, 2, none⟩), fun v _ => v = .agg #[.bool b4, .slice A4 n4 c4], fun v w' => ∃ g, v = .slice (some ⟨g, 0, none⟩) 2 2 ∧ Blk w' g 72 #[.bool b2, .slice A2 n2 c2, .bool b4, .slice A4 n4 c4], fun v w' => ∃ b A n c, v = .agg #[.bool b, .slice A n c] ∧ IsInt w' (.bool b) (.slice A n c) (((Rat.divInt p.num q.den).den : Int) * ((Rat.divInt q.num p.den).den : Int)), fun v w' => ∃ b A n c b' A' n' c', v = .agg #[.bool b, .slice A n c, .bool b', .slice A' n' c'] ∧ IsRat w' (.bool b) (.slice A n c) (.bool b') (.slice A' n' c') (p * q)]
    rfl (by kernel_rfl) (by kernel_rfl) ?stab ?steps ?fin
  case stab => exact .cons (Stab.eq _) (.cons (Stab.eq _) (.cons (Stab.eq _) (.cons (Stab.eq _) (.cons (fun _ _ _ he ⟨g, h1, h2⟩ => ⟨g, h1, h2.ext he⟩) (.cons (fun _ _ _ he ⟨b, A, n, c, h1, h2⟩ => ⟨b, A, n, c, h1, h2.ext he⟩) (.cons (Stab.eq _) (.cons (Stab.eq _) (.cons (Stab.eq _) (.cons (Stab.eq _) (.cons (fun _ _ _ he ⟨g, h1, h2⟩ => ⟨g, h1, h2.ext he⟩) (.cons (fun _ _ _ he ⟨b, A, n, c, h1, h2⟩ => ⟨b, A, n, c, h1, h2.ext he⟩) (.cons (fun _ _ _ he ⟨b, A, n, c, b', A', n', c', h1, h2⟩ => ⟨b, A, n, c, b', A', n', c', h1, h2.ext he⟩) .nil))))))))))))
  case steps =>
    refine .cons ?s0 (.cons ?s1 (.cons ?s2 (.cons ?s3 (.cons ?s4 (.cons ?s5 (.cons ?s6 (.cons ?s7 (.cons ?s8 (.cons ?s9 (.cons ?s10 (.cons ?s11 (.cons ?s12 .nil))))))))))))
    case s0 =>
      intro w' ev hE hk ha hc hf
      have e5 : ev (.tmp 5) = .pointer (some ⟨w1.heap.size, 0, none⟩) := ha 5 (by decide)
      exact opStep_val (by simp [execOp, e5, go_sem]) rfl
    case s1 =>
      intro w' ev hE hk ha hc hf
      have e17 : ev (.tmp 17) = .pointer (some ⟨w1.heap.size, 0, none⟩) := hk.1 _ rfl
      have c0 : w'.cell? ⟨w1.heap.size, 0, none⟩ = some (.bool b1) := hE.cellv (((hB1.out.alloc _).drew.cell 0))
      have c1 : w'.cell? ⟨w1.heap.size, 1, none⟩ = some (.slice A1 n1 c1) := hE.cellv (((hB1.out.alloc _).drew.cell 1))
      exact opStep_val (by simp [execOp, e17, c0, c1, go_sem]) rfl
    case s2 =>
      intro w' ev hE hk ha hc hf
      have e6 : ev (.tmp 6) = .pointer (some ⟨w2.heap.size, 0, none⟩) := ha 6 (by decide)
      exact opStep_val (by simp [execOp, e6, go_sem]) rfl
    case s3 =>
      intro w' ev hE hk ha hc hf
      have e19 : ev (.tmp 19) = .pointer (some ⟨w2.heap.size, 0, none⟩) := hk.1 _ rfl
      have c0 : w'.cell? ⟨w2.heap.size, 0, none⟩ = some (.bool b3) := hE.cellv (((Blk.new _ _ _).drew.cell 0))
      have c1 : w'.cell? ⟨w2.heap.size, 1, none⟩ = some (.slice A3 n3 c3) := hE.cellv (((Blk.new _ _ _).drew.cell 1))
      exact opStep_val (by simp [execOp, e19, c0, c1, go_sem]) rfl
    case s4 =>
      intro w' ev hE hk ha hc hf
      have e18 : ev (.tmp 18) = .agg #[.bool b1, .slice A1 n1 c1] := hk.1 _ rfl
      have e20 : ev (.tmp 20) = .agg #[.bool b3, .slice A3 n3 c3] := hk.2.1 _ rfl
      exact opStep_grow (by simp [execOp, e18, e20, go_sem]) ((Ext.refl _).alloc _) ⟨_, rfl, Blk.new _ _ _⟩
    case s5 =>
      intro w' ev hE hk ha hc hf
      have f21 := hk.1 _ rfl
      obtain ⟨g1, e21, hB⟩ := f21
      refine opStep_call (by simp [execOp, resolve, invoke, hf, e21, go_sem]) (prod2_any _ _ _ _ _ _ _ _ _ _ _ _ hB (hI1.out.1.ext (((Ext.refl _).alloc _).drew.trans hE)) (hI3.out.1.ext (((Ext.refl _).alloc _).drew.trans hE)) m1.out m2.out) ?_
      rintro e w1 ⟨b1, A1, n1, k1, rfl, hI1, hE1⟩
      exact ⟨_, rfl, hE1, b1, A1, n1, k1, rfl, hI1⟩
    case s6 =>
      intro w' ev hE hk ha hc hf
      have e5 : ev (.tmp 5) = .pointer (some ⟨w1.heap.size, 0, none⟩) := ha 5 (by decide)
      exact opStep_val (by simp [execOp, e5, go_sem]) rfl
    case s7 =>
      intro w' ev hE hk ha hc hf
      have e23 : ev (.tmp 23) = .pointer (some ⟨w1.heap.size, 2, none⟩) := hk.1 _ rfl
      have c0 : w'.cell? ⟨w1.heap.size, 2, none⟩ = some (.bool b2) := hE.cellv (((hB1.out.alloc _).drew.cell 2))
      have c1 : w'.cell? ⟨w1.heap.size, 3, none⟩ = some (.slice A2 n2 c2) := hE.cellv (((hB1.out.alloc _).drew.cell 3))
      exact opStep_val (by simp [execOp, e23, c0, c1, go_sem]) rfl
    case s8 =>
      intro w' ev hE hk ha hc hf
      have e6 : ev (.tmp 6) = .pointer (some ⟨w2.heap.size, 0, none⟩) := ha 6 (by decide)
      exact opStep_val (by simp [execOp, e6, go_sem]) rfl
    case s9 =>
      intro w' ev hE hk ha hc hf
      have e25 : ev (.tmp 25) = .pointer (some ⟨w2.heap.size, 2, none⟩) := hk.1 _ rfl
      have c0 : w'.cell? ⟨w2.heap.size, 2, none⟩ = some (.bool b4) := hE.cellv (((Blk.new _ _ _).drew.cell 2))
      have c1 : w'.cell? ⟨w2.heap.size, 3, none⟩ = some (.slice A4 n4 c4) := hE.cellv (((Blk.new _ _ _).drew.cell 3))
      exact opStep_val (by simp [execOp, e25, c0, c1, go_sem]) rfl
    case s10 =>
      intro w' ev hE hk ha hc hf
      have e24 : ev (.tmp 24) = .agg #[.bool b2, .slice A2 n2 c2] := hk.1 _ rfl
      have e26 : ev (.tmp 26) = .agg #[.bool b4, .slice A4 n4 c4] := hk.2.1 _ rfl
      exact opStep_grow (by simp [execOp, e24, e26, go_sem]) ((Ext.refl _).alloc _) ⟨_, rfl, Blk.new _ _ _⟩
    case s11 =>
      intro w' ev hE hk ha hc hf
      have f27 := hk.1 _ rfl
      obtain ⟨g1, e27, hB⟩ := f27
      refine opStep_call (by simp [execOp, resolve, invoke, hf, e27, go_sem]) (prod2_any _ _ _ _ _ _ _ _ _ _ _ _ hB (hI1.out.2.ext (((Ext.refl _).alloc _).drew.trans hE)) (hI3.out.2.ext (((Ext.refl _).alloc _).drew.trans hE)) m3.out m4.out) ?_
      rintro e w1 ⟨b1, A1, n1, k1, rfl, hI1, hE1⟩
      exact ⟨_, rfl, hE1, b1, A1, n1, k1, rfl, hI1⟩
    case s12 =>
      intro w' ev hE hk ha hc hf
      have f22 := hk.1 _ rfl
      have f28 := hk.2.1 _ rfl
      obtain ⟨b1', A1', n1', c1', e22, hI⟩ := f22
      obtain ⟨b2', A2', n2', c2', e28, hI'⟩ := f28
      exact opStep_val (v := .agg #[.bool b1', .slice A1' n1' c1', .bool b2', .slice A2' n2' c2']) (by simp [execOp, e22, e28, go_sem]) ⟨_, _, _, _, _, _, _, _, rfl, by rw [(mul_parts p q).1]; exact hI, by rw [(mul_parts p q).2, Int.natCast_mul]; exact hI'⟩
  case fin =>
    intro g w' hE hF
    obtain ⟨b5, A5, n5, c5, b6, A6, n6, c6, e5, hI5⟩ := hF 12 _ rfl
    simp only [List.length_cons, List.length_nil, Nat.reduceAdd, List.drop_succ_cons, List.drop_zero, List.take_succ_cons, List.take_zero, putG, Act.put, List.setIfInBounds_toArray, List.set_cons_succ, List.set_cons_zero, e5]
    clear hF e5 hcell hfr
    replace hI5 := hide hI5
    replace hE := hide ((hE2.out.alloc (Obj.cells #[.bool b3, .slice A3 n3 c3, .bool b4, .slice A4 n4 c4] 74)).drew.trans hE)
    obtain ⟨hcell, hfr⟩ := hE.out.cells
    go_wp2
    refine bodyPost_ret (v := .agg #[.bool b5, .slice A5 n5 c5, .bool b6, .slice A6 n6 c6]) (by simp [results, Tryz.results53, go_sem, hcell]) rfl ⟨_, _, _, _, _, _, _, _, rfl, ?_, ?_⟩
    · have ht : Ty w' (w.heap.size + 2) 74 := (Ty.new' _ _ (by simp)).ext hE.out
      exact hI5.out.put4 (b := w.heap.size + 2) ht (by decide) (.bool b5) (.slice A5 n5 c5) (.bool b6) (.slice A6 n6 c6)
    · exact (((((Ext.refl _).alloc _).alloc _).alloc _).trans hE.out).put4 (b := w.heap.size + 2) (by omega) (.bool b5) (.slice A5 n5 c5) (.bool b6) (.slice A6 n6 c6)

end Go.Proofs.YteefhmdameeoaaaGreat
namespace Go.Proofs.YteefhmdameeoaaaGreat
open Go.RowKit


set_option maxRecDepth 100000 in
set_option maxHeartbeats 800000 in
theorem Add_any (b b' : Bool) (A A' : Option Addr) (n c n' c' : Nat) (d d' : Bool) (E E' : Option Addr) (m k m' k' : Nat) (p q : Rat) (N M : Nat) (w : World) (h : IsRat w (.bool b) (.slice A n c) (.bool b') (.slice A' n' c') p) (h' : IsRat w (.bool d) (.slice E m k) (.bool d') (.slice E' m' k') q) (hp : RSz p N) (hq : RSz q M) (hN : N + M + 1 ≤ 4398046511104) :
    Calls Tryz.prog 65 #[.agg #[.bool b, .slice A n c, .bool b', .slice A' n' c'], .agg #[.bool d, .slice E m k, .bool d', .slice E' m' k']] w (RetRat (p + q) w) := by
  replace h := hide h
  replace h' := hide h'
  replace hp := hide hp
  replace hq := hide hq
  go_enter Tryz.func65, Tryz.ntmps65
  have l1 : Hid ((digs p.num.natAbs).length ≤ 4398046511104) := Nat.le_trans hp.out.1 (by omega)
  have l2 : Hid ((digs (q.den : Int).natAbs).length ≤ 4398046511104) := Nat.le_trans (len_den q hq.out) (by omega)
  have l3 : Hid ((digs q.num.natAbs).length ≤ 4398046511104) := Nat.le_trans hq.out.1 (by omega)
  have l4 : Hid ((digs (p.den : Int).natAbs).length ≤ 4398046511104) := Nat.le_trans (len_den p hp.out) (by omega)
  have m1 : Hid ((digs (p.num * (q.den : Int)).natAbs).length ≤ 4398046511104) := Nat.le_trans (len_mul hp.out.1 (len_den q hq.out)) (by omega)
  have m2 : Hid ((digs (q.num * (p.den : Int)).natAbs).length ≤ 4398046511104) := Nat.le_trans (len_mul hq.out.1 (len_den p hp.out)) (by omega)
  have m3 : Hid ((digs (p.num * (q.den : Int) + q.num * (p.den : Int)).natAbs).length ≤ 4398046511104) := Nat.le_trans (len_add (N := N + M) (len_mul hp.out.1 (len_den q hq.out)) (Nat.le_trans (len_mul hq.out.1 (len_den p hp.out)) (by omega))) hN
  have m4 : Hid ((digs ((p.den : Int) * (q.den : Int)).natAbs).length ≤ 4398046511104) := Nat.le_trans (len_mul (len_den p hp.out) (len_den q hq.out)) (by omega)
  clear hN hp hq
  go_wp2
  refine wp_region_v (by kernel_rfl) [[], [(6, 0)], [], [(8, 2)], [(7, 1), (9, 3)], [(10, 4)], [], [(12, 6)], [], [(14, 8)], [(13, 7), (15, 9)], [(16, 10)], [(11, 5), (17, 11)], []] [[], [0], [], [2], [0, 1, 2, 3], [0, 1, 2, 3, 4], [], [6], [], [8], [6, 7, 8, 9], [0, 1, 2, 3, 4, 5, 6, 7, 8, 9, 10], [0, 1, 2, 3, 4, 5, 6, 7, 8, 9, 10, 11], []]
    [fun v _ => v = .pointer (some ⟨w.heap.size, 0, none⟩), fun v _ => v = .agg #[.bool b, .slice A n c], fun v _ => v = .pointer (some ⟨w.heap.size + 1, 2, none⟩), fun v _ => v = .agg #[.bool d', .slice E' m' k'], fun v w' => ∃ g, v = .slice (some ⟨g, 0, none⟩) 2 2 ∧ Blk w' g 72 #[.bool b, .slice A n c, .bool d', .slice E' m' k'], fun v w' => ∃ b A n c, v = .agg #[.bool b, .slice A n c] ∧ IsInt w' (.bool b) (.slice A n c) (p.num * (q.den : Int)), fun v _ => v = .pointer (some ⟨w.heap.size + 1, 0, none⟩), fun v _ => v = .agg #[.bool d, .slice E m k], fun v _ => v = .pointer (some ⟨w.heap.size, 2, none⟩), fun v _ => v = .agg #[.bool b', .slice A' n' c'], fun v w' => ∃ g, v = .slice (some ⟨g, 0, none⟩) 2 2 ∧ Blk w' g 72 #[.bool d, .slice E m k, .bool b', .slice A' n' c'], fun v w' => ∃ b A n c, v = .agg #[.bool b, .slice A n c] ∧ IsInt w' (.bool b) (.slice A n c) (q.num * (p.den : Int)), fun v w' => ∃ b A n c, v = .agg #[.bool b, .slice A n c] ∧ IsInt w' (.bool b) (.slice A n c) (p.num * (q.den : Int) + q.num * (p.den : Int)), fun v w' => ∃ g, v = .pointer (some ⟨g, 0, none⟩) ∧ w.heap.size + 3 ≤ g ∧ Blk w' g 72 #[.bool false, .slice none 0 0]]
    rfl (by kernel_rfl) (by kernel_rfl) ?stab ?steps ?fin
  case stab => exact .cons (Stab.eq _) (.cons (Stab.eq _) (.cons (Stab.eq _) (.cons (Stab.eq _) (.cons (fun _ _ _ he ⟨g, h1, h2⟩ => ⟨g, h1, h2.ext he⟩) (.cons (fun _ _ _ he ⟨b, A, n, c, h1, h2⟩ => ⟨b, A, n, c, h1, h2.ext he⟩) (.cons (Stab.eq _) (.cons (Stab.eq _) (.cons (Stab.eq _) (.cons (Stab.eq _) (.cons (fun _ _ _ he ⟨g, h1, h2⟩ => ⟨g, h1, h2.ext he⟩) (.cons (fun _ _ _ he ⟨b, A, n, c, h1, h2⟩ => ⟨b, A, n, c, h1, h2.ext he⟩) (.cons (fun _ _ _ he ⟨b, A, n, c, h1, h2⟩ => ⟨b, A, n, c, h1, h2.ext he⟩) (.cons (fun _ _ _ he ⟨g, h1, h2, h3⟩ => ⟨g, h1, h2, h3.ext he⟩) .nil)))))))))))))
  case steps =>
    refine .cons ?s0 (.cons ?s1 (.cons ?s2 (.cons ?s3 (.cons ?s4 (.cons ?s5 (.cons ?s6 (.cons ?s7 (.cons ?s8 (.cons ?s9 (.cons ?s10 (.cons ?s11 (.cons ?s12 (.cons ?s13 .nil)))))))))))))
    case s0 =>
      intro w' ev hE hk ha hc hf
      have e2 : ev (.tmp 2) = .pointer (some ⟨w.heap.size, 0, none⟩) := ha 2 (by decide)
      exact opStep_val (by simp [execOp, e2, go_sem]) rfl
    case s1 =>
      intro w' ev hE hk ha hc hf
      have e6 : ev (.tmp 6) = .pointer (some ⟨w.heap.size, 0, none⟩) := hk.1 _ rfl
      have c0 : w'.cell? ⟨w.heap.size, 0, none⟩ = some (.bool b) := hE.cellv ((((Blk.new _ _ _).alloc _).alloc _).drew.cell 0)
      have c1 : w'.cell? ⟨w.heap.size, 1, none⟩ = some (.slice A n c) := hE.cellv ((((Blk.new _ _ _).alloc _).alloc _).drew.cell 1)
      exact opStep_val (by simp [execOp, e6, c0, c1, go_sem]) rfl
    case s2 =>
      intro w' ev hE hk ha hc hf
      have e3 : ev (.tmp 3) = .pointer (some ⟨w.heap.size + 1, 0, none⟩) := ha 3 (by decide)
      exact opStep_val (by simp [execOp, e3, go_sem]) rfl
    case s3 =>
      intro w' ev hE hk ha hc hf
      have e8 : ev (.tmp 8) = .pointer (some ⟨w.heap.size + 1, 2, none⟩) := hk.1 _ rfl
      have c0 : w'.cell? ⟨w.heap.size + 1, 2, none⟩ = some (.bool d') := hE.cellv (((Blk.new' _ _ (by simp)).alloc _).drew.cell 2)
      have c1 : w'.cell? ⟨w.heap.size + 1, 3, none⟩ = some (.slice E' m' k') := hE.cellv (((Blk.new' _ _ (by simp)).alloc _).drew.cell 3)
      exact opStep_val (by simp [execOp, e8, c0, c1, go_sem]) rfl
    case s4 =>
      intro w' ev hE hk ha hc hf
      have e7 : ev (.tmp 7) = .agg #[.bool b, .slice A n c] := hk.1 _ rfl
      have e9 : ev (.tmp 9) = .agg #[.bool d', .slice E' m' k'] := hk.2.1 _ rfl
      exact opStep_grow (by simp [execOp, e7, e9, go_sem]) ((Ext.refl _).alloc _) ⟨_, rfl, Blk.new _ _ _⟩
    case s5 =>
      intro w' ev hE hk ha hc hf
      have f10 := hk.1 _ rfl
      obtain ⟨g1, e10, hB⟩ := f10
      refine opStep_call (by simp [execOp, resolve, invoke, hf, e10, go_sem]) (prod2_any _ _ _ _ _ _ _ _ _ _ _ _ hB (h.out.1.ext (((((Ext.refl _).alloc _).alloc _).alloc _).drew.trans hE)) (h'.out.2.ext (((((Ext.refl _).alloc _).alloc _).alloc _).drew.trans hE)) l1.out l2.out) ?_
      rintro e w1 ⟨b1, A1, n1, k1, rfl, hI1, hE1⟩
      exact ⟨_, rfl, hE1, b1, A1, n1, k1, rfl, hI1⟩
    case s6 =>
      intro w' ev hE hk ha hc hf
      have e3 : ev (.tmp 3) = .pointer (some ⟨w.heap.size + 1, 0, none⟩) := ha 3 (by decide)
      exact opStep_val (by simp [execOp, e3, go_sem]) rfl
    case s7 =>
      intro w' ev hE hk ha hc hf
      have e12 : ev (.tmp 12) = .pointer (some ⟨w.heap.size + 1, 0, none⟩) := hk.1 _ rfl
      have c0 : w'.cell? ⟨w.heap.size + 1, 0, none⟩ = some (.bool d) := hE.cellv (((Blk.new' _ _ (by simp)).alloc _).drew.cell 0)
      have c1 : w'.cell? ⟨w.heap.size + 1, 1, none⟩ = some (.slice E m k) := hE.cellv (((Blk.new' _ _ (by simp)).alloc _).drew.cell 1)
      exact opStep_val (by simp [execOp, e12, c0, c1, go_sem]) rfl
    case s8 =>
      intro w' ev hE hk ha hc hf
      have e2 : ev (.tmp 2) = .pointer (some ⟨w.heap.size, 0, none⟩) := ha 2 (by decide)
      exact opStep_val (by simp [execOp, e2, go_sem]) rfl
    case s9 =>
      intro w' ev hE hk ha hc hf
      have e14 : ev (.tmp 14) = .pointer (some ⟨w.heap.size, 2, none⟩) := hk.1 _ rfl
      have c0 : w'.cell? ⟨w.heap.size, 2, none⟩ = some (.bool b') := hE.cellv ((((Blk.new _ _ _).alloc _).alloc _).drew.cell 2)
      have c1 : w'.cell? ⟨w.heap.size, 3, none⟩ = some (.slice A' n' c') := hE.cellv ((((Blk.new _ _ _).alloc _).alloc _).drew.cell 3)
      exact opStep_val (by simp [execOp, e14, c0, c1, go_sem]) rfl
    case s10 =>
      intro w' ev hE hk ha hc hf
      have e13 : ev (.tmp 13) = .agg #[.bool d, .slice E m k] := hk.1 _ rfl
      have e15 : ev (.tmp 15) = .agg #[.bool b', .slice A' n' c'] := hk.2.1 _ rfl
      exact opStep_grow (by simp [execOp, e13, e15, go_sem]) ((Ext.refl _).alloc _) ⟨_, rfl, Blk.new _ _ _⟩
    case s11 =>
      intro w' ev hE hk ha hc hf
      have f16 := hk.1 _ rfl
      obtain ⟨g1, e16, hB⟩ := f16
      refine opStep_call (by simp [execOp, resolve, invoke, hf, e16, go_sem]) (prod2_any _ _ _ _ _ _ _ _ _ _ _ _ hB (h'.out.1.ext (((((Ext.refl _).alloc _).alloc _).alloc _).drew.trans hE)) (h.out.2.ext (((((Ext.refl _).alloc _).alloc _).alloc _).drew.trans hE)) l3.out l4.out) ?_
      rintro e w1 ⟨b1, A1, n1, k1, rfl, hI1, hE1⟩
      exact ⟨_, rfl, hE1, b1, A1, n1, k1, rfl, hI1⟩
    case s12 =>
      intro w' ev hE hk ha hc hf
      have f11 := hk.1 _ rfl
      have f17 := hk.2.1 _ rfl
      obtain ⟨b1, A1, n1, c1, e11, hI⟩ := f11
      obtain ⟨b2, A2, n2, c2, e17, hI'⟩ := f17
      refine opStep_call (by simp [execOp, resolve, invoke, hf, e11, e17, go_sem]) (add_any _ _ _ _ _ _ _ _ _ _ _ hI hI' m1.out m2.out) ?_
      rintro e w1 ⟨b1, A1, n1, k1, rfl, hI1, hE1⟩
      exact ⟨_, rfl, hE1, b1, A1, n1, k1, rfl, hI1⟩
    case s13 =>
      intro w' ev hE hk ha hc hf
      exact opStep_grow (by simp [execOp, go_sem]) ((Ext.refl _).alloc _) ⟨_, rfl, by have := hE.size; simp at this; omega, Blk.new _ _ _⟩
  case fin =>
    intro g w' hE hF
    obtain ⟨b5, A5, n5, c5, e5, hI5⟩ := hF 12 _ rfl
    obtain ⟨gg, e6, hgg, hB6⟩ := hF 13 _ rfl
    simp only [List.length_cons, List.length_nil, Nat.reduceAdd, List.drop_succ_cons, List.drop_zero, List.take_succ_cons, List.take_zero, putG, Act.put, List.setIfInBounds_toArray, List.set_cons_succ, List.set_cons_zero, e5, e6]
    clear hF e5 e6
    have y0 : w'.cell? ⟨gg, 0, none⟩ = some (.bool false) := hB6.cell 0
    have y1 : w'.cell? ⟨gg, 1, none⟩ = some (.slice none 0 0) := hB6.cell 1
    have y2 := hB6.frozen 0
    have y3 := hB6.frozen 1
    replace hI5 := hide hI5
    replace hB6 := hide hB6
    replace hE := hide hE
    go_wp2
    have hEw := ((((Ext.refl _).alloc _).alloc _).alloc _).drew.trans hE.out
    have f1 := (hB6.out.set 0 (.bool b5)).set 1 (.slice A5 n5 c5)
    have f2 : Blk (put2 w' gg (.bool b5) (.slice A5 n5 c5)) w.heap.size 74 #[.bool b, .slice A n c, .bool b', .slice A' n' c'] := (((((Blk.new _ _ _).alloc _).alloc _).drew.ext hE.out).far (p := ⟨gg, 0, none⟩) (by simp; omega) _).far (p := ⟨gg, 1, none⟩) (by simp; omega) _
    have f3 : Blk (put2 w' gg (.bool b5) (.slice A5 n5 c5)) (w.heap.size + 1) 74 #[.bool d, .slice E m k, .bool d', .slice E' m' k'] := ((((Blk.new' _ _ (by simp)).alloc _).drew.ext hE.out).far (p := ⟨gg, 0, none⟩) (by simp; omega) _).far (p := ⟨gg, 1, none⟩) (by simp; omega) _
    have f4 : Blk (put2 w' gg (.bool b5) (.slice A5 n5 c5)) (w.heap.size + 2) 74 #[.bool false, .slice none 0 0, .bool false, .slice none 0 0] := (((Blk.new' _ _ (by simp)).drew.ext hE.out).far (p := ⟨gg, 0, none⟩) (by simp; omega) _).far (p := ⟨gg, 1, none⟩) (by simp; omega) _
    have t6 := hB6.out.ty
    have fI := hI5.out.put2 t6 (by decide) (.bool b5) (.slice A5 n5 c5)
    have fE := hEw.put2 (b := gg) (by omega) (.bool b5) (.slice A5 n5 c5)
    rw [put2_eq] at f1 ⊢
    generalize put2 w' gg (.bool b5) (.slice A5 n5 c5) = w2 at *
    clear y0 y1 y2 y3 hI5 hB6 hE t6 hEw
    replace f1 := hide f1
    replace f2 := hide f2
    replace f3 := hide f3
    replace f4 := hide f4
    replace fI := hide fI
    replace fE := hide fE
    refine wp_region_v (by kernel_rfl) [[], [], [(20, 1)], [], [(22, 3)], [(21, 2), (23, 4)], [(24, 5)], [(19, 0), (25, 6)]] [[], [], [1], [], [3], [1, 2, 3, 4], [1, 2, 3, 4, 5], [0, 1, 2, 3, 4, 5, 6]]
      [fun v _ => v = .agg #[.bool b5, .slice A5 n5 c5], fun v _ => v = .pointer (some ⟨w.heap.size, 2, none⟩), fun v _ => v = .agg #[.bool b', .slice A' n' c'], fun v _ => v = .pointer (some ⟨w.heap.size + 1, 2, none⟩), fun v _ => v = .agg #[.bool d', .slice E' m' k'], fun v w' => ∃ g, v = .slice (some ⟨g, 0, none⟩) 2 2 ∧ Blk w' g 72 #[.bool b', .slice A' n' c', .bool d', .slice E' m' k'], fun v w' => ∃ b A n c, v = .agg #[.bool b, .slice A n c] ∧ IsInt w' (.bool b) (.slice A n c) ((p.den : Int) * (q.den : Int)), fun v w' => ∃ b A n c b' A' n' c', v = .agg #[.bool b, .slice A n c, .bool b', .slice A' n' c'] ∧ IsRat w' (.bool b) (.slice A n c) (.bool b') (.slice A' n' c') (Rat.divInt (p.num * (q.den : Int) + q.num * (p.den : Int)) ((p.den : Int) * (q.den : Int)))]
      rfl (by kernel_rfl) (by kernel_rfl) ?stab ?steps ?fin
    case stab => exact .cons (Stab.eq _) (.cons (Stab.eq _) (.cons (Stab.eq _) (.cons (Stab.eq _) (.cons (Stab.eq _) (.cons (fun _ _ _ he ⟨g, h1, h2⟩ => ⟨g, h1, h2.ext he⟩) (.cons (fun _ _ _ he ⟨b, A, n, c, h1, h2⟩ => ⟨b, A, n, c, h1, h2.ext he⟩) (.cons (fun _ _ _ he ⟨b, A, n, c, b', A', n', c', h1, h2⟩ => ⟨b, A, n, c, b', A', n', c', h1, h2.ext he⟩) .nil)))))))
    case steps =>
      refine .cons ?s0 (.cons ?s1 (.cons ?s2 (.cons ?s3 (.cons ?s4 (.cons ?s5 (.cons ?s6 (.cons ?s7 .nil)))))))
      case s0 =>
        intro w' ev hE hk ha hc hf
        have e5 : ev (.tmp 5) = .pointer (some ⟨gg, 0, none⟩) := ha 5 (by decide)
        have c0 : w'.cell? ⟨gg, 0, none⟩ = some (.bool b5) := hE.cellv ((f1.out.drew.cell 0))
        have c1 : w'.cell? ⟨gg, 1, none⟩ = some (.slice A5 n5 c5) := hE.cellv ((f1.out.drew.cell 1))
        exact opStep_val (by simp [execOp, e5, c0, c1, go_sem]) rfl
      case s1 =>
        intro w' ev hE hk ha hc hf
        have e2 : ev (.tmp 2) = .pointer (some ⟨w.heap.size, 0, none⟩) := ha 2 (by decide)
        exact opStep_val (by simp [execOp, e2, go_sem]) rfl
      case s2 =>
        intro w' ev hE hk ha hc hf
        have e20 : ev (.tmp 20) = .pointer (some ⟨w.heap.size, 2, none⟩) := hk.1 _ rfl
        have c0 : w'.cell? ⟨w.heap.size, 2, none⟩ = some (.bool b') := hE.cellv ((f2.out.drew.cell 2))
        have c1 : w'.cell? ⟨w.heap.size, 3, none⟩ = some (.slice A' n' c') := hE.cellv ((f2.out.drew.cell 3))
        exact opStep_val (by simp [execOp, e20, c0, c1, go_sem]) rfl
      case s3 =>
        intro w' ev hE hk ha hc hf
        have e3 : ev (.tmp 3) = .pointer (some ⟨w.heap.size + 1, 0, none⟩) := ha 3 (by decide)
        exact opStep_val (by simp [execOp, e3, go_sem]) rfl
      case s4 =>
        intro w' ev hE hk ha hc hf
        have e22 : ev (.tmp 22) = .pointer (some ⟨w.heap.size + 1, 2, none⟩) := hk.1 _ rfl
        have c0 : w'.cell? ⟨w.heap.size + 1, 2, none⟩ = some (.bool d') := hE.cellv ((f3.out.drew.cell 2))
        have c1 : w'.cell? ⟨w.heap.size + 1, 3, none⟩ = some (.slice E' m' k') := hE.cellv ((f3.out.drew.cell 3))
        exact opStep_val (by simp [execOp, e22, c0, c1, go_sem]) rfl
      case s5 =>
        intro w' ev hE hk ha hc hf
        have e21 : ev (.tmp 21) = .agg #[.bool b', .slice A' n' c'] := hk.1 _ rfl
        have e23 : ev (.tmp 23) = .agg #[.bool d', .slice E' m' k'] := hk.2.1 _ rfl
        exact opStep_grow (by simp [execOp, e21, e23, go_sem]) ((Ext.refl _).alloc _) ⟨_, rfl, Blk.new _ _ _⟩
      case s6 =>
        intro w' ev hE hk ha hc hf
        have f24 := hk.1 _ rfl
        obtain ⟨g1, e24, hB⟩ := f24
        refine opStep_call (by simp [execOp, resolve, invoke, hf, e24, go_sem]) (prod2_any _ _ _ _ _ _ _ _ _ _ _ _ hB (h.out.2.ext (fE.out.trans ((Ext.refl _).drew.trans hE))) (h'.out.2.ext (fE.out.trans ((Ext.refl _).drew.trans hE))) l4.out l2.out) ?_
        rintro e w1 ⟨b1, A1, n1, k1, rfl, hI1, hE1⟩
        exact ⟨_, rfl, hE1, b1, A1, n1, k1, rfl, hI1⟩
      case s7 =>
        intro w' ev hE hk ha hc hf
        have e19 : ev (.tmp 19) = .agg #[.bool b5, .slice A5 n5 c5] := hk.1 _ rfl
        have f25 := hk.2.1 _ rfl
        obtain ⟨b2, A2, n2, c2, e25, hI'⟩ := f25
        refine opStep_call (by simp [execOp, resolve, invoke, hf, e19, e25, go_sem]) (lowest_any _ _ _ _ _ _ _ _ _ _ _ (fI.out.ext ((Ext.refl _).drew.trans hE)) hI' m3.out m4.out (Int.mul_pos (den_pos p) (den_pos q))) ?_
        rintro e w1 ⟨b1, b2, A1, A2, n1, k1, n2, k2, rfl, hI1, hE1⟩
        exact ⟨_, rfl, hE1, b1, A1, n1, k1, b2, A2, n2, k2, rfl, hI1⟩
    case fin =>
      intro g w' hE hF
      obtain ⟨b7, A7, n7, c7, b8, A8, n8, c8, e7, hI7⟩ := hF 7 _ rfl
      simp only [List.length_cons, List.length_nil, Nat.reduceAdd, List.drop_succ_cons, List.drop_zero, List.take_succ_cons, List.take_zero, putG, Act.put, List.setIfInBounds_toArray, List.set_cons_succ, List.set_cons_zero, e7]
      clear hF e7
      rw [← add_parts] at hI7
      have f5 := f4.out.ext ((Ext.refl _).drew.trans hE)
      have y0 : w'.cell? ⟨w.heap.size + 2, 0, none⟩ = some (.bool false) := f5.cell 0
      have y1 : w'.cell? ⟨w.heap.size + 2, 1, none⟩ = some (.slice none 0 0) := f5.cell 1
      have y2 : w'.cell? ⟨w.heap.size + 2, 2, none⟩ = some (.bool false) := f5.cell 2
      have y3 : w'.cell? ⟨w.heap.size + 2, 3, none⟩ = some (.slice none 0 0) := f5.cell 3
      have y4 := f5.frozen 0
      have y5 := f5.frozen 1
      have y6 := f5.frozen 2
      have y7 := f5.frozen 3
      have t5 := hide f5.ty
      replace hI7 := hide hI7
      replace hE := hide (fE.out.trans ((Ext.refl _).drew.trans hE))
      clear f5
      go_wp2
      refine bodyPost_ret (v := .agg #[.bool b7, .slice A7 n7 c7, .bool b8, .slice A8 n8 c8]) (by simp [results, Tryz.results65, go_sem, y0, y1, y2, y3]) rfl ⟨_, _, _, _, _, _, _, _, rfl, ?_, ?_⟩
      · exact hI7.out.put4 (b := w.heap.size + 2) t5.out (by decide) (.bool b7) (.slice A7 n7 c7) (.bool b8) (.slice A8 n8 c8)
      · exact hE.out.put4 (b := w.heap.size + 2) (by omega) (.bool b7) (.slice A7 n7 c7) (.bool b8) (.slice A8 n8 c8)

set_option maxRecDepth 100000 in
set_option maxHeartbeats 800000 in
theorem Sub_any (b b' : Bool) (A A' : Option Addr) (n c n' c' : Nat) (d d' : Bool) (E E' : Option Addr) (m k m' k' : Nat) (p q : Rat) (N M : Nat) (w : World) (h : IsRat w (.bool b) (.slice A n c) (.bool b') (.slice A' n' c') p) (h' : IsRat w (.bool d) (.slice E m k) (.bool d') (.slice E' m' k') q) (hp : RSz p N) (hq : RSz q M) (hN : N + M + 1 ≤ 4398046511104) :
    Calls Tryz.prog 52 #[.agg #[.bool b, .slice A n c, .bool b', .slice A' n' c'], .agg #[.bool d, .slice E m k, .bool d', .slice E' m' k']] w (RetRat (p - q) w) := by
  have hsub : p - q = p + -q := Rat.sub_eq_add_neg p q
  rw [hsub]
  clear hsub
  replace h := hide h
  replace h' := hide h'
  replace hp := hide hp
  replace hq := hide hq
  go_enter Tryz.func52, Tryz.ntmps52
  go_wp2
  refine wp_region_v (by kernel_rfl) [[], [], [(6, 1)], [(5, 0), (7, 2)]] [[], [], [1], [0, 1, 2]]
    [fun v _ => v = .agg #[.bool b, .slice A n c, .bool b', .slice A' n' c'], fun v _ => v = .agg #[.bool d, .slice E m k, .bool d', .slice E' m' k'], fun v w' => ∃ b A n c b' A' n' c', v = .agg #[.bool b, .slice A n c, .bool b', .slice A' n' c'] ∧ IsRat w' (.bool b) (.slice A n c) (.bool b') (.slice A' n' c') (-q), fun v w' => ∃ b A n c b' A' n' c', v = .agg #[.bool b, .slice A n c, .bool b', .slice A' n' c'] ∧ IsRat w' (.bool b) (.slice A n c) (.bool b') (.slice A' n' c') (p + -q)]
    rfl (by kernel_rfl) (by kernel_rfl) ?stab ?steps ?fin
  case stab => exact .cons (Stab.eq _) (.cons (Stab.eq _) (.cons (fun _ _ _ he ⟨b, A, n, c, b', A', n', c', h1, h2⟩ => ⟨b, A, n, c, b', A', n', c', h1, h2.ext he⟩) (.cons (fun _ _ _ he ⟨b, A, n, c, b', A', n', c', h1, h2⟩ => ⟨b, A, n, c, b', A', n', c', h1, h2.ext he⟩) .nil)))
  case steps =>
    refine .cons ?s0 (.cons ?s1 (.cons ?s2 (.cons ?s3 .nil)))
    case s0 =>
      intro w' ev hE hk ha hc hf
      have e2 : ev (.tmp 2) = .pointer (some ⟨w.heap.size, 0, none⟩) := ha 2 (by decide)
      have c0 : w'.cell? ⟨w.heap.size, 0, none⟩ = some (.bool b) := hE.cellv ((((Blk.new _ _ _).alloc _).alloc _).drew.cell 0)
      have c1 : w'.cell? ⟨w.heap.size, 1, none⟩ = some (.slice A n c) := hE.cellv ((((Blk.new _ _ _).alloc _).alloc _).drew.cell 1)
      have c2 : w'.cell? ⟨w.heap.size, 2, none⟩ = some (.bool b') := hE.cellv ((((Blk.new _ _ _).alloc _).alloc _).drew.cell 2)
      have c3 : w'.cell? ⟨w.heap.size, 3, none⟩ = some (.slice A' n' c') := hE.cellv ((((Blk.new _ _ _).alloc _).alloc _).drew.cell 3)
      exact opStep_val (by simp [execOp, e2, c0, c1, c2, c3, go_sem]) rfl
    case s1 =>
      intro w' ev hE hk ha hc hf
      have e3 : ev (.tmp 3) = .pointer (some ⟨w.heap.size + 1, 0, none⟩) := ha 3 (by decide)
      have c0 : w'.cell? ⟨w.heap.size + 1, 0, none⟩ = some (.bool d) := hE.cellv (((Blk.new' _ _ (by simp)).alloc _).drew.cell 0)
      have c1 : w'.cell? ⟨w.heap.size + 1, 1, none⟩ = some (.slice E m k) := hE.cellv (((Blk.new' _ _ (by simp)).alloc _).drew.cell 1)
      have c2 : w'.cell? ⟨w.heap.size + 1, 2, none⟩ = some (.bool d') := hE.cellv (((Blk.new' _ _ (by simp)).alloc _).drew.cell 2)
      have c3 : w'.cell? ⟨w.heap.size + 1, 3, none⟩ = some (.slice E' m' k') := hE.cellv (((Blk.new' _ _ (by simp)).alloc _).drew.cell 3)
      exact opStep_val (by simp [execOp, e3, c0, c1, c2, c3, go_sem]) rfl
    case s2 =>
      intro w' ev hE hk ha hc hf
      have e6 : ev (.tmp 6) = .agg #[.bool d, .slice E m k, .bool d', .slice E' m' k'] := hk.1 _ rfl
      refine opStep_call (by simp [execOp, resolve, invoke, hf, e6, go_sem]) (Neg_any _ _ _ _ _ _ _ _ _ _ (h'.out.ext (((((Ext.refl _).alloc _).alloc _).alloc _).drew.trans hE)) (Nat.le_trans hq.out.1 (by omega))) ?_
      rintro e w1 ⟨b1, b2, A1, A2, n1, k1, n2, k2, rfl, hI1, hE1⟩
      exact ⟨_, rfl, hE1, b1, A1, n1, k1, b2, A2, n2, k2, rfl, hI1⟩
    case s3 =>
      intro w' ev hE hk ha hc hf
      have e5 : ev (.tmp 5) = .agg #[.bool b, .slice A n c, .bool b', .slice A' n' c'] := hk.1 _ rfl
      have f7 := hk.2.1 _ rfl
      obtain ⟨b1, A1, n1, c1, b2, A2, n2, c2, e7, hI⟩ := f7
      refine opStep_call (by simp [execOp, resolve, invoke, hf, e5, e7, go_sem]) (Add_any _ _ _ _ _ _ _ _ _ _ _ _ _ _ _ _ _ _ N M _ (h.out.ext (((((Ext.refl _).alloc _).alloc _).alloc _).drew.trans hE)) hI hp.out hq.out.neg hN) ?_
      rintro e w1 ⟨b1, b2, A1, A2, n1, k1, n2, k2, rfl, hI1, hE1⟩
      exact ⟨_, rfl, hE1, b1, A1, n1, k1, b2, A2, n2, k2, rfl, hI1⟩
  case fin =>
    intro g w' hE hF
    obtain ⟨b5, A5, n5, c5, b6, A6, n6, c6, e5, hI5⟩ := hF 3 _ rfl
    simp only [List.length_cons, List.length_nil, Nat.reduceAdd, List.drop_succ_cons, List.drop_zero, List.take_succ_cons, List.take_zero, putG, Act.put, List.setIfInBounds_toArray, List.set_cons_succ, List.set_cons_zero, e5]
    clear hF e5
    replace hI5 := hide hI5
    obtain ⟨hcell, hfr⟩ := hE.cells
    replace hE := hide hE
    go_wp2
    refine bodyPost_ret (v := .agg #[.bool b5, .slice A5 n5 c5, .bool b6, .slice A6 n6 c6]) (by simp [results, Tryz.results52, go_sem, hcell]) rfl ⟨_, _, _, _, _, _, _, _, rfl, ?_, ?_⟩
    · have ht : Ty w' (w.heap.size + 2) 74 := (Ty.new' _ _ (by simp)).drew.ext hE.out
      exact hI5.out.put4 (b := w.heap.size + 2) ht (by decide) (.bool b5) (.slice A5 n5 c5) (.bool b6) (.slice A6 n6 c6)
    · exact (((((Ext.refl _).alloc _).alloc _).alloc _).drew.trans hE.out).put4 (b := w.heap.size + 2) (by omega) (.bool b5) (.slice A5 n5 c5) (.bool b6) (.slice A6 n6 c6)

end Go.Proofs.YteefhmdameeoaaaGreat
namespace Go.Proofs.YteefhmdameeoaaaGreat
open Go.RowKit

/-- The call returns a rational number and no error. -/
def RetRatOk (q : Rat) (w : World) (e : Ending) (w' : World) : Prop :=
  ∃ (b b' : Bool) (A A' : Option Addr) (n c n' c' : Nat), e = .returned (.tuple #[.agg #[.bool b, .slice A n c, .bool b', .slice A' n' c'], .int .i64 0]) ∧ IsRat w' (.bool b) (.slice A n c) (.bool b') (.slice A' n' c') q ∧ Ext w w'

set_option maxRecDepth 100000 in
set_option maxHeartbeats 800000 in
theorem Inv_any (b b' : Bool) (A A' : Option Addr) (n c n' c' : Nat) (p : Rat) (w : World) (h : IsRat w (.bool b) (.slice A n c) (.bool b') (.slice A' n' c') p) (hn : (digs p.num.natAbs).length ≤ 4398046511104) (hd : (digs (p.den : Int).natAbs).length ≤ 4398046511104) (h0 : p.num ≠ 0) :
    Calls Tryz.prog 64 #[.agg #[.bool b, .slice A n c, .bool b', .slice A' n' c']] w (RetRatOk p⁻¹ w) := by
  replace h := hide h
  replace hn := hide hn
  replace hd := hide hd
  go_enter Tryz.func64, Tryz.ntmps64
  go_wp2_with fail
  refine (sign_any _ _ _ _ _ _ (h.out.1.ext (((Ext.refl _).alloc _).alloc _))).mono ?_
  rintro e w1 ⟨rfl, hE1⟩
  have B0 : Blk w1 w.heap.size 74 #[.bool b, .slice A n c, .bool b', .slice A' n' c'] := (((Blk.new _ _ _).alloc _)).ext hE1
  have B1 : Blk w1 (w.heap.size + 1) 74 #[.bool false, .slice none 0 0, .bool false, .slice none 0 0] := ((Blk.new' _ _ (by simp))).ext hE1
  replace hE1 := hide ((((Ext.refl _).alloc _).alloc _).trans hE1)
  have x0 : w1.cell? ⟨w.heap.size, 0, none⟩ = some (.bool b) := B0.cell 0
  have x1 : w1.cell? ⟨w.heap.size, 1, none⟩ = some (.slice A n c) := B0.cell 1
  have x2 : w1.cell? ⟨w.heap.size, 2, none⟩ = some (.bool b') := B0.cell 2
  have x3 : w1.cell? ⟨w.heap.size, 3, none⟩ = some (.slice A' n' c') := B0.cell 3
  have y0 : w1.cell? ⟨w.heap.size + 1, 0, none⟩ = some (.bool false) := B1.cell 0
  have y1 : w1.cell? ⟨w.heap.size + 1, 1, none⟩ = some (.slice none 0 0) := B1.cell 1
  have y2 : w1.cell? ⟨w.heap.size + 1, 2, none⟩ = some (.bool false) := B1.cell 2
  have y3 : w1.cell? ⟨w.heap.size + 1, 3, none⟩ = some (.slice none 0 0) := B1.cell 3
  have y4 := B1.frozen 0
  have y5 := B1.frozen 1
  have y6 := B1.frozen 2
  have y7 := B1.frozen 3
  replace B0 := hide B0
  replace B1 := hide B1
  rcases Int.lt_or_gt_of_ne h0 with hneg | hpos
  · obtain ⟨i1, i2⟩ := inv_neg_parts p hneg
    rw [Int.sign_eq_neg_one_of_neg hneg]
    clear h0 hneg
    replace i1 := hide i1
    replace i2 := hide i2
    go_wp2
    refine wp_region_v (by kernel_rfl) [[], [(12, 0)], [(13, 1)], [], [(15, 3)], [(16, 4)], [(14, 2), (17, 5)]] [[], [0], [0, 1], [], [3], [0, 1, 2, 3, 4], [0, 1, 2, 3, 4, 5]]
      [fun v _ => v = .pointer (some ⟨w.heap.size, 2, none⟩), fun v _ => v = .agg #[.bool b', .slice A' n' c'], fun v w' => ∃ b A n c, v = .agg #[.bool b, .slice A n c] ∧ IsInt w' (.bool b) (.slice A n c) (-(p.den : Int)), fun v _ => v = .pointer (some ⟨w.heap.size, 0, none⟩), fun v _ => v = .agg #[.bool b, .slice A n c], fun v w' => ∃ b A n c, v = .agg #[.bool b, .slice A n c] ∧ IsInt w' (.bool b) (.slice A n c) (-p.num), fun v w' => ∃ b A n c b' A' n' c', v = .agg #[.bool b, .slice A n c, .bool b', .slice A' n' c'] ∧ IsRat w' (.bool b) (.slice A n c) (.bool b') (.slice A' n' c') (p⁻¹)]
      rfl (by kernel_rfl) (by kernel_rfl) ?stab ?steps ?fin
    case stab => exact .cons (Stab.eq _) (.cons (Stab.eq _) (.cons (fun _ _ _ he ⟨b, A, n, c, h1, h2⟩ => ⟨b, A, n, c, h1, h2.ext he⟩) (.cons (Stab.eq _) (.cons (Stab.eq _) (.cons (fun _ _ _ he ⟨b, A, n, c, h1, h2⟩ => ⟨b, A, n, c, h1, h2.ext he⟩) (.cons (fun _ _ _ he ⟨b, A, n, c, b', A', n', c', h1, h2⟩ => ⟨b, A, n, c, b', A', n', c', h1, h2.ext he⟩) .nil))))))
    case steps =>
      refine .cons ?s0 (.cons ?s1 (.cons ?s2 (.cons ?s3 (.cons ?s4 (.cons ?s5 (.cons ?s6 .nil))))))
      case s0 =>
        intro w' ev hE hk ha hc hf
        have e1 : ev (.tmp 1) = .pointer (some ⟨w.heap.size, 0, none⟩) := ha 1 (by decide)
        exact opStep_val (by simp [execOp, e1, go_sem]) rfl
      case s1 =>
        intro w' ev hE hk ha hc hf
        have e12 : ev (.tmp 12) = .pointer (some ⟨w.heap.size, 2, none⟩) := hk.1 _ rfl
        have c0 : w'.cell? ⟨w.heap.size, 2, none⟩ = some (.bool b') := hE.cellv (B0.out.drew.cell 2)
        have c1 : w'.cell? ⟨w.heap.size, 3, none⟩ = some (.slice A' n' c') := hE.cellv (B0.out.drew.cell 3)
        exact opStep_val (by simp [execOp, e12, c0, c1, go_sem]) rfl
      case s2 =>
        intro w' ev hE hk ha hc hf
        have e13 : ev (.tmp 13) = .agg #[.bool b', .slice A' n' c'] := hk.1 _ rfl
        refine opStep_call (by simp [execOp, resolve, invoke, hf, e13, go_sem]) (neg_any _ _ _ _ _ _ (h.out.2.ext (hE1.out.trans ((Ext.refl _).drew.trans hE))) hd.out) ?_
        rintro e w1 ⟨b1, A1, n1, k1, rfl, hI1, hE1⟩
        exact ⟨_, rfl, hE1, b1, A1, n1, k1, rfl, hI1⟩
      case s3 =>
        intro w' ev hE hk ha hc hf
        have e1 : ev (.tmp 1) = .pointer (some ⟨w.heap.size, 0, none⟩) := ha 1 (by decide)
        exact opStep_val (by simp [execOp, e1, go_sem]) rfl
      case s4 =>
        intro w' ev hE hk ha hc hf
        have e15 : ev (.tmp 15) = .pointer (some ⟨w.heap.size, 0, none⟩) := hk.1 _ rfl
        have c0 : w'.cell? ⟨w.heap.size, 0, none⟩ = some (.bool b) := hE.cellv (B0.out.drew.cell 0)
        have c1 : w'.cell? ⟨w.heap.size, 1, none⟩ = some (.slice A n c) := hE.cellv (B0.out.drew.cell 1)
        exact opStep_val (by simp [execOp, e15, c0, c1, go_sem]) rfl
      case s5 =>
        intro w' ev hE hk ha hc hf
        have e16 : ev (.tmp 16) = .agg #[.bool b, .slice A n c] := hk.1 _ rfl
        refine opStep_call (by simp [execOp, resolve, invoke, hf, e16, go_sem]) (neg_any _ _ _ _ _ _ (h.out.1.ext (hE1.out.trans ((Ext.refl _).drew.trans hE))) hn.out) ?_
        rintro e w1 ⟨b1, A1, n1, k1, rfl, hI1, hE1⟩
        exact ⟨_, rfl, hE1, b1, A1, n1, k1, rfl, hI1⟩
      case s6 =>
        intro w' ev hE hk ha hc hf
        have f14 := hk.1 _ rfl
        have f17 := hk.2.1 _ rfl
        obtain ⟨b1, A1, n1, c1, e14, hI⟩ := f14
        obtain ⟨b2, A2, n2, c2, e17, hI'⟩ := f17
        exact opStep_val (v := .agg #[.bool b1, .slice A1 n1 c1, .bool b2, .slice A2 n2 c2]) (by simp [execOp, e14, e17, go_sem]) ⟨_, _, _, _, _, _, _, _, rfl, by rw [i1.out]; exact hI, by rw [i2.out]; exact hI'⟩
    case fin =>
      intro g w' hE hF
      obtain ⟨b5, A5, n5, c5, b6, A6, n6, c6, e5, hI5⟩ := hF 6 _ rfl
      simp only [List.length_cons, List.length_nil, Nat.reduceAdd, List.drop_succ_cons, List.drop_zero, List.take_succ_cons, List.take_zero, putG, Act.put, List.setIfInBounds_toArray, List.set_cons_succ, List.set_cons_zero, e5]
      clear hF e5
      have f5 := B1.out.ext ((Ext.refl _).drew.trans hE)
      clear y0 y1 y2 y3 y4 y5 y6 y7
      have y0 : w'.cell? ⟨w.heap.size + 1, 0, none⟩ = some (.bool false) := f5.cell 0
      have y1 : w'.cell? ⟨w.heap.size + 1, 1, none⟩ = some (.slice none 0 0) := f5.cell 1
      have y2 : w'.cell? ⟨w.heap.size + 1, 2, none⟩ = some (.bool false) := f5.cell 2
      have y3 : w'.cell? ⟨w.heap.size + 1, 3, none⟩ = some (.slice none 0 0) := f5.cell 3
      have y4 := f5.frozen 0
      have y5 := f5.frozen 1
      have y6 := f5.frozen 2
      have y7 := f5.frozen 3
      have t5 := hide f5.ty
      replace hI5 := hide hI5
      replace hE := hide (hE1.out.trans ((Ext.refl _).drew.trans hE))
      clear f5
      go_wp2
      refine bodyPost_ret (v := .tuple #[.agg #[.bool b5, .slice A5 n5 c5, .bool b6, .slice A6 n6 c6], .int .i64 0]) (by simp [results, Tryz.results64, go_sem, y0, y1, y2, y3]) rfl ⟨_, _, _, _, _, _, _, _, rfl, ?_, ?_⟩
      · exact hI5.out.put4 (b := w.heap.size + 1) t5.out (by decide) (.bool b5) (.slice A5 n5 c5) (.bool b6) (.slice A6 n6 c6)
      · exact hE.out.put4 (b := w.heap.size + 1) (by omega) (.bool b5) (.slice A5 n5 c5) (.bool b6) (.slice A6 n6 c6)
  · obtain ⟨i1, i2⟩ := inv_pos_parts p hpos
    rw [Int.sign_eq_one_of_pos hpos]
    clear h0 hpos
    replace i1 := hide i1
    replace i2 := hide i2
    go_wp2
    refine bodyPost_ret (v := .tuple #[.agg #[.bool b', .slice A' n' c', .bool b, .slice A n c], .int .i64 0]) (by simp [results, Tryz.results64, go_sem, y0, y1, y2, y3]) rfl ⟨_, _, _, _, _, _, _, _, rfl, ?_, ?_⟩
    · have hI : IsRat w1 (.bool b') (.slice A' n' c') (.bool b) (.slice A n c) p⁻¹ := ⟨by rw [i1.out]; exact h.out.2.ext hE1.out, by rw [i2.out]; exact h.out.1.ext hE1.out⟩
      exact hI.put4 (b := w.heap.size + 1) B1.out.ty (by decide) (.bool b') (.slice A' n' c') (.bool b) (.slice A n c)
    · exact hE1.out.put4 (b := w.heap.size + 1) (by omega) (.bool b') (.slice A' n' c') (.bool b) (.slice A n c)

set_option maxRecDepth 100000 in
set_option maxHeartbeats 800000 in
theorem Div_any (b b' : Bool) (A A' : Option Addr) (n c n' c' : Nat) (d d' : Bool) (E E' : Option Addr) (m k m' k' : Nat) (p q : Rat) (N M : Nat) (w : World) (h : IsRat w (.bool b) (.slice A n c) (.bool b') (.slice A' n' c') p) (h' : IsRat w (.bool d) (.slice E m k) (.bool d') (.slice E' m' k') q) (hp : RSz p N) (hq : RSz q M) (hN : N + M ≤ 4398046511104) (h0 : q.num ≠ 0) :
    Calls Tryz.prog 51 #[.agg #[.bool b, .slice A n c, .bool b', .slice A' n' c'], .agg #[.bool d, .slice E m k, .bool d', .slice E' m' k']] w (RetRatOk (p / q) w) := by
  rw [Rat.div_def]
  replace h := hide h
  replace h' := hide h'
  replace hp := hide hp
  replace hq := hide hq
  have l1 : Hid ((digs q.num.natAbs).length ≤ 4398046511104) := Nat.le_trans hq.out.1 (by omega)
  have l2 : Hid ((digs (q.den : Int).natAbs).length ≤ 4398046511104) := Nat.le_trans (len_den q hq.out) (by omega)
  replace h0 := hide h0
  replace hN := hide hN
  go_enter Tryz.func51, Tryz.ntmps51
  go_wp2_with fail
  refine (Inv_any _ _ _ _ _ _ _ _ _ _ (h'.out.ext ((((Ext.refl _).alloc _).alloc _).alloc _)) l1.out l2.out h0.out).mono ?_
  rintro e w1 ⟨b1, b2, A1, A2, n1, c1, n2, c2, rfl, hI1, hE1⟩
  have B0 : Blk w1 w.heap.size 74 #[.bool b, .slice A n c, .bool b', .slice A' n' c'] := ((((Blk.new _ _ _).alloc _).alloc _)).ext hE1
  have B2 : Blk w1 (w.heap.size + 2) 74 #[.bool false, .slice none 0 0, .bool false, .slice none 0 0] := ((Blk.new' _ _ (by simp))).ext hE1
  have hs1 := hE1.size
  replace hE1 := hide (((((Ext.refl _).alloc _).alloc _).alloc _).trans hE1)
  have hs : w.heap.size + 3 ≤ w1.heap.size := by have := hs1; simp at this; omega
  have hn1 : w1.heap.size ≠ w.heap.size := by omega
  have OB : Obj.cells #[.bool b1, .slice A1 n1 c1, .bool b2, .slice A2 n2 c2] 74 = Obj.cells #[.bool b1, .slice A1 n1 c1, .bool b2, .slice A2 n2 c2] 74 := rfl
  replace B0 := B0.alloc (Obj.cells #[.bool b1, .slice A1 n1 c1, .bool b2, .slice A2 n2 c2] 74)
  replace B2 := B2.alloc (Obj.cells #[.bool b1, .slice A1 n1 c1, .bool b2, .slice A2 n2 c2] 74)
  have x0 : (w1.alloc (Obj.cells #[.bool b1, .slice A1 n1 c1, .bool b2, .slice A2 n2 c2] 74)).cell? ⟨w.heap.size, 0, none⟩ = some (.bool b) := B0.cell 0
  have x1 : (w1.alloc (Obj.cells #[.bool b1, .slice A1 n1 c1, .bool b2, .slice A2 n2 c2] 74)).cell? ⟨w.heap.size, 1, none⟩ = some (.slice A n c) := B0.cell 1
  have x2 : (w1.alloc (Obj.cells #[.bool b1, .slice A1 n1 c1, .bool b2, .slice A2 n2 c2] 74)).cell? ⟨w.heap.size, 2, none⟩ = some (.bool b') := B0.cell 2
  have x3 : (w1.alloc (Obj.cells #[.bool b1, .slice A1 n1 c1, .bool b2, .slice A2 n2 c2] 74)).cell? ⟨w.heap.size, 3, none⟩ = some (.slice A' n' c') := B0.cell 3
  clear OB
  replace hI1 := hide (hI1.ext ((Ext.refl _).alloc (Obj.cells #[.bool b1, .slice A1 n1 c1, .bool b2, .slice A2 n2 c2] 74)))
  replace hE1 := hide (hE1.out.trans ((Ext.refl _).alloc (Obj.cells #[.bool b1, .slice A1 n1 c1, .bool b2, .slice A2 n2 c2] 74)))
  replace B0 := hide B0
  replace B2 := hide B2
  replace hs := hide hs
  clear hs1
  go_wp2_with fail
  refine (Mul_any _ _ _ _ _ _ _ _ _ _ _ _ _ _ _ _ _ _ N M _ (h.out.ext hE1.out) hI1.out hp.out (hq.out.inv h0.out) hN.out).mono ?_
  rintro e w2 ⟨b5, b6, A5, A6, n5, c5, n6, c6, rfl, hI5, hE5⟩
  have f5 := B2.out.ext hE5
  have y0 : w2.cell? ⟨w.heap.size + 2, 0, none⟩ = some (.bool false) := f5.cell 0
  have y1 : w2.cell? ⟨w.heap.size + 2, 1, none⟩ = some (.slice none 0 0) := f5.cell 1
  have y2 : w2.cell? ⟨w.heap.size + 2, 2, none⟩ = some (.bool false) := f5.cell 2
  have y3 : w2.cell? ⟨w.heap.size + 2, 3, none⟩ = some (.slice none 0 0) := f5.cell 3
  have y4 := f5.frozen 0
  have y5 := f5.frozen 1
  have y6 := f5.frozen 2
  have y7 := f5.frozen 3
  have t5 := hide f5.ty
  replace hI5 := hide hI5
  replace hE := hide (hE1.out.trans hE5)
  clear f5 hE5 x0 x1 x2 x3
  go_wp2
  refine bodyPost_ret (v := .tuple #[.agg #[.bool b5, .slice A5 n5 c5, .bool b6, .slice A6 n6 c6], .int .i64 0]) (by simp [results, Tryz.results51, go_sem, y0, y1, y2, y3]) rfl ⟨_, _, _, _, _, _, _, _, rfl, ?_, ?_⟩
  · exact hI5.out.put4 (b := w.heap.size + 2) t5.out (by decide) (.bool b5) (.slice A5 n5 c5) (.bool b6) (.slice A6 n6 c6)
  · exact hE.out.put4 (b := w.heap.size + 2) (by omega) (.bool b5) (.slice A5 n5 c5) (.bool b6) (.slice A6 n6 c6)

end Go.Proofs.YteefhmdameeoaaaGreat
