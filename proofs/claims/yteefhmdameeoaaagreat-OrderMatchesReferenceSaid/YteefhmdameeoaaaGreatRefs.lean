/-
 order's contracts for rows that are known cell by cell only.
-/
import Derived.Test.YteefhmdameeoaaaGreatRefr
set_option linter.unusedSimpArgs false
set_option linter.unusedVariables false
namespace Go.Proofs.YteefhmdameeoaaaGreat
open Go.RowKit

theorem RowsIn.open_ {κ : IntKind} {w : World} {v : Value} {R : List (Nat → Int)} (h : RowsIn κ w v R) : ∃ (A : Option Addr) (c : Nat), v = .slice A R.length c ∧ R.length ≤ c ∧ c ≤ 9223372036854775807 ∧
  (0 < R.length → ∃ (b o : Nat), A = some ⟨b, o, none⟩ ∧ b < w.heap.size ∧ ∀ k j, k < R.length → j < 8 → w.cell? ⟨b, o + k * 8 + j, none⟩ = some (.int κ (rowAt R k j))) := h
set_option maxRecDepth 100000 in
set_option maxHeartbeats 1600000 in
theorem oValid_in (v : Value) (R : List (Nat → Int)) (w : World) (h : RowsIn .i64 w v R) :
  Calls Tryz.prog 29 #[v] w fun e w' => e = .returned (.bool (ovB R)) ∧ Ext w w' := by
 obtain ⟨A, c, rfl, hc, hm, hx⟩ := h.open_
 clear h
 replace hx := hide hx
 by_cases hlen : 24 < R.length
 ·have hF : Hid (ovB R = false) := ovB_false fun h => by have := h.1; omega
  go_enter Tryz.func29, Tryz.ntmps29
  go_wp2
  go_ret
  exact ⟨by rw [hF.out]; rfl, Ext.refl _⟩
 ·go_enter Tryz.func29, Tryz.ntmps29
  go_wp2
  go_loopw [13] (fun i wr => ∃ k : Nat, k ≤ R.length ∧ i = .int .i64 k ∧ Hid ((∀ k' j, k' < k → j < 8 → OkAt R k' j) ∧ Blk wr w.heap.size 64 (cb8 (seenTo R k)) ∧ Ext w wr)) (fun i _ => R.length - (intOf i).toNat)
  case atStart => exact ⟨0, by omega, rfl, fun k' j h => by omega, Blk.new _ _ _, (Ext.refl _).alloc _⟩
  case round =>
   obtain ⟨k, hk, rfl, hI⟩ := hrel
   by_cases hlt : k < R.length
   ·obtain ⟨g, o, rfl, hgl, hcl⟩ := hx.out (by omega)
    replace hcl := hide fun j (hj : j < 8) => (hI.out.2.2.cell (p := ⟨g, o + k * 8 + j, none⟩) hgl).trans (hcl k j hlt hj)
    have hok : Hid (∀ j, OkAt R k j ↔ -1000 ≤ rowAt R k j ∧ rowAt R k j ≤ 1000 ∧ (rowAt R k j < 0 → seenTo R k j = true)) := fun j => Iff.rfl
    have hse : Hid (∀ j, seenTo R (k + 1) j = (seenTo R k j || (rowAt R k j != 0))) := fun j => rfl
    generalize rowAt R k = r at *
    have r0 : (wr).cell? ⟨g, o + k * 8, none⟩ = some (.int .i64 (r 0)) := hcl.out 0 (by omega)
    have r1 : (wr).cell? ⟨g, o + k * 8 + 1, none⟩ = some (.int .i64 (r 1)) := hcl.out 1 (by omega)
    have r2 : (wr).cell? ⟨g, o + k * 8 + 2, none⟩ = some (.int .i64 (r 2)) := hcl.out 2 (by omega)
    have r3 : (wr).cell? ⟨g, o + k * 8 + 3, none⟩ = some (.int .i64 (r 3)) := hcl.out 3 (by omega)
    have r4 : (wr).cell? ⟨g, o + k * 8 + 4, none⟩ = some (.int .i64 (r 4)) := hcl.out 4 (by omega)
    have r5 : (wr).cell? ⟨g, o + k * 8 + 5, none⟩ = some (.int .i64 (r 5)) := hcl.out 5 (by omega)
    have r6 : (wr).cell? ⟨g, o + k * 8 + 6, none⟩ = some (.int .i64 (r 6)) := hcl.out 6 (by omega)
    have r7 : (wr).cell? ⟨g, o + k * 8 + 7, none⟩ = some (.int .i64 (r 7)) := hcl.out 7 (by omega)
    have hB1 : Hid (Blk (wr.alloc (.cells #[.int .i64 (r 0), .int .i64 (r 1), .int .i64 (r 2), .int .i64 (r 3), .int .i64 (r 4), .int .i64 (r 5), .int .i64 (r 6), .int .i64 (r 7)] 35)) w.heap.size 64 (cb8 (seenMid R k 0))) := by
     have := hI.out.2.1.alloc (.cells #[.int .i64 (r 0), .int .i64 (r 1), .int .i64 (r 2), .int .i64 (r 3), .int .i64 (r 4), .int .i64 (r 5), .int .i64 (r 6), .int .i64 (r 7)] 35)
     rw [cb8_congr (b := seenMid R k 0) fun i _ => by simp [seenMid]] at this
     exact this
    have hE1 : Hid (Ext w (wr.alloc (.cells #[.int .i64 (r 0), .int .i64 (r 1), .int .i64 (r 2), .int .i64 (r 3), .int .i64 (r 4), .int .i64 (r 5), .int .i64 (r 6), .int .i64 (r 7)] 35))) := hI.out.2.2.alloc _
    replace hI := hide hI.out.1
    go_wp2
    generalize (wr.alloc (.cells #[.int .i64 (r 0), .int .i64 (r 1), .int .i64 (r 2), .int .i64 (r 3), .int .i64 (r 4), .int .i64 (r 5), .int .i64 (r 6), .int .i64 (r 7)] 35)) = w2 at *
    clear r0 r1 r2 r3 r4 r5 r6 r7 hcl
    go_loopw [18] (fun i wr => ∃ j : Nat, j ≤ 8 ∧ i = .int .i64 j ∧ Hid ((∀ j', j' < j → OkAt R k j') ∧ Blk wr w.heap.size 64 (cb8 (seenMid R k j)) ∧ Ext w wr)) (fun i _ => 8 - (intOf i).toNat)
    case atStart => exact ⟨0, by omega, rfl, fun j' h => by omega, hB1.out, hE1.out⟩
    case round =>
     obtain ⟨j, hj, rfl, hJ⟩ := hrel
     by_cases hj8 : j < 8
     ·have hix := fun W => run_index_row r j hj8 W
      have xs : wr.cell? ⟨w.heap.size, j, none⟩ = some (.bool (seenTo R k j)) := by rw [hJ.out.2.1.atb hj8]; simp [seenMid]
      have xf := hJ.out.2.1.frozen j
      have hok1 := hide (hok.out j)
      have hse1 := hide (hse.out j)
      have hbad : Hid (¬ OkAt R k j → ovB R = false) := fun hn => ovB_false fun hv => hn (hv.2 k j hlt hj8)
      have hgood : Hid (OkAt R k j → ∀ j', j' < j + 1 → OkAt R k j') := fun hg j' h' => by
       by_cases e : j' = j
       ·rw [e]; exact hg
       ·exact hJ.out.1 j' (by omega)
      have hset : Hid (∀ v, v = seenTo R (k + 1) j → Blk (wr.setCell ⟨w.heap.size, j, none⟩ (.bool v)) w.heap.size 64 (cb8 (seenMid R k (j + 1)))) := fun v hv => by
       refine hJ.out.2.1.setb hj8 _ (by simp [seenMid, hv]) fun i hi hne => ?_
       by_cases h1 : i < j
       ·simp [seenMid, h1, show i < j + 1 by omega]
       ·simp [seenMid, h1, show ¬ i < j + 1 by omega]
      have hE2 : Hid (∀ v, Ext w (wr.setCell ⟨w.heap.size, j, none⟩ (.bool v))) := fun v => hJ.out.2.2.set (p := ⟨w.heap.size, j, none⟩) (Nat.le_refl _) _
      have hE0 : Hid (Ext w wr) := hJ.out.2.2
      clear hJ
      generalize seenTo R k j = s at *
      generalize r j = x at *
      by_cases h1 : x < -1000
      ·have h1' : decide (x < -1000) = true := by simpa using h1
       go_wp2
       go_ret
       exact ⟨by rw [hbad.out fun h => by have := hok1.out.1 h; omega]; rfl, hE0.out⟩
      ·have h1' : decide (x < -1000) = false := by simpa using h1
       by_cases h2 : 1000 < x
       ·have h2' : decide (1000 < x) = true := by simpa using h2
        go_wp2
        go_ret
        exact ⟨by rw [hbad.out fun h => by have := hok1.out.1 h; omega]; rfl, hE0.out⟩
       ·have h2' : decide (1000 < x) = false := by simpa using h2
        by_cases h3 : x < 0
        ·have h3' : decide (x < 0) = true := by simpa using h3
         cases s with
         | false =>
          go_wp2
          go_ret
          exact ⟨by rw [hbad.out fun h => by have := (hok1.out.1 h).2.2 h3; cases this]; rfl, hE0.out⟩
         | true =>
          go_wp2
          exact ⟨⟨j + 1, hj8, by simp, hgood.out (hok1.out.2 ⟨by omega, by omega, fun _ => rfl⟩), hset.out _ (by rw [hse1.out]; rfl), hE2.out _⟩, by simp [intOf]; omega⟩
        ·have h3' : decide (x < 0) = false := by simpa using h3
         cases s with
         | false =>
          by_cases h4 : x = 0
          ·subst h4
           go_wp2
           exact ⟨⟨j + 1, hj8, by simp, hgood.out (hok1.out.2 ⟨by omega, by omega, fun h => by omega⟩), hset.out _ (by rw [hse1.out]; rfl), hE2.out _⟩, by simp [intOf]; omega⟩
          ·have h4' : (x != 0) = true := by simpa using h4
           go_wp2
           exact ⟨⟨j + 1, hj8, by simp, hgood.out (hok1.out.2 ⟨by omega, by omega, fun h => by omega⟩), hset.out _ (by rw [hse1.out, h4']; rfl), hE2.out _⟩, by simp [intOf]; omega⟩
         | true =>
          go_wp2
          exact ⟨⟨j + 1, hj8, by simp, hgood.out (hok1.out.2 ⟨by omega, by omega, fun h => by omega⟩), hset.out _ (by rw [hse1.out]; rfl), hE2.out _⟩, by simp [intOf]; omega⟩
     ·obtain rfl : j = 8 := by omega
      go_wp2
      refine ⟨⟨k + 1, hlt, by simp, fun k' j' h1 h2 => ?_, ?_, hJ.out.2.2⟩, by simp [intOf]; omega⟩
      ·by_cases e : k' = k
       ·rw [e]; exact hJ.out.1 j' h2
       ·exact hI.out k' j' (by omega) h2
      ·have := hJ.out.2.1
       rwa [cb8_congr (b := seenTo R (k + 1)) fun i hi => by simp [seenMid, hi]] at this
   ·obtain rfl : k = R.length := by omega
    have hT : Hid (ovB R = true) := ovB_true ⟨by omega, fun k j h1 h2 => hI.out.1 k j h1 h2⟩
    go_wp2
    go_ret
    exact ⟨by rw [hT.out]; rfl, hI.out.2.2⟩

theorem append_order_ain {base : Nat} {w : World} {v x : Value} {R S : List (Nat → Int)} (h : OwnRows 35 base w v R) (hx : RowsIn .i64 w x S) (hn : R.length + S.length ≤ 1000000000000) (hb : base ≤ w.heap.size) : AppendRows 35 30 base w v x R S := by
 by_cases h0 : 0 < S.length
 ·exact append_order_in h hx h0 hn hb
 ·have e : S = [] := List.eq_nil_of_length_eq_zero (by omega)
  subst e
  obtain ⟨i, hi, hz0, hz1, hz2⟩ := info_parts (show (Tryz.prog.info? 35).map (fun i => (i.zero, i.size, i.bytes)) = some (some (.agg (c8 fun _ => 0)), 8, 64) by kernel_rfl)
  obtain ⟨A, c, rfl, hc, hm, hcells⟩ := hx.open_
  obtain ⟨A', c', rfl, hc', hm', _⟩ := h.rows.open_
  have hs : Src Tryz.prog i.size 30 (.slice A ([] : List (Nat → Int)).length c) 0 [] w := by
   cases A with
   | none => exact Src.ofNil w Tryz.underlying30 c
   | some a => exact Src.ofSlice w Tryz.underlying30 a 0 c [] (by simp) (by simp) (by simp)
  have := run_append_nothing w 30 30 30 35 i Tryz.underlying30 hi A' R.length c' hc' _ hs
  exact ⟨A', c', w, this, by simpa using h, grownBy_refl _ _⟩

set_option maxRecDepth 100000 in
theorem CloneO_in (v : Value) (R : List (Nat → Int)) (w : World) (h : RowsIn .i64 w v R) (hn : R.length ≤ 1000000000) :
  Calls Tryz.prog 36 #[v] w (RetOrder R w) := by
 have h' := hide h
 obtain ⟨A, c, rfl, hc, hm, hx⟩ := h.open_
 clear h
 replace hx := hide hx
 cases A with
 | none =>
  have e : R = [] := by
   refine List.eq_nil_of_length_eq_zero ?_
   rcases Nat.eq_zero_or_pos R.length with h0 | h0
   ·exact h0
   ·obtain ⟨b, o, hA, _⟩ := hx.out h0; cases hA
  subst e
  have hq := fun W => Lib.run_eql_slice_nil (P := Tryz.prog) W 30 35 none 0 c 0 0 Tryz.underlying30
  simp only [Option.isNone_none, List.length_nil] at hq ⊢
  go_enter Tryz.func36, Tryz.ntmps36
  go_wp2
  go_ret
  exact ⟨none, 0, rfl, OwnRows.nil _ _ _, Ext.refl _⟩
 | some a =>
  have hO : Hid (OwnRows 35 w.heap.size (w.alloc (.cells #[] 35)) (.slice (some ⟨w.heap.size, 0, none⟩) 0 0) []) := OwnRows.blk (R := []) (Nat.le_refl _) (Blk.new _ _ _) rfl (by simp)
  obtain ⟨A', c', w', hrun, hO', hg⟩ := append_order_ain (base := w.heap.size) (w := w.alloc (.cells #[] 35)) (S := R) hO.out (h'.out.ext ((Ext.refl _).alloc _)) (by simp; omega) (by simp)
  have hE : Hid (Ext w w') := ((Ext.refl w).alloc _).grown' hg hO.out.base_le
  simp only [List.length_nil, Nat.zero_add, List.nil_append] at hrun hO'
  replace hrun := hide hrun
  replace hO' := hide hO'
  clear hg
  have hq := fun W => Lib.run_eql_slice_nil (P := Tryz.prog) W 30 35 (some a) R.length c 0 0 Tryz.underlying30
  simp only [Option.isNone_some] at hq
  go_enter Tryz.func36, Tryz.ntmps36
  go_wp2_with (at_builtin; go_loud (refine wpList_append_run rfl _ _ _ rfl _ _ rfl rfl hrun.out ?_))
  go_ret
  exact ⟨A', c', rfl, hO'.out, hE.out⟩

set_option maxRecDepth 100000 in
set_option maxHeartbeats 3200000 in
theorem rank_in (v : Value) (R : List (Nat → Int)) (w : World) (h : RowsIn .i64 w v R) (hR : ∀ r ∈ R, In8 r (-1000) 1000) (hn : R.length ≤ 1000000) :
  Calls Tryz.prog 37 #[v] w fun e w' => ∃ z : Int, e = .returned (.int .i64 z) ∧ (z = 8 ↔ KerTriv (ratRows R) R.length) ∧ Ext w w' := by
 obtain ⟨A, c, rfl, hc, hm, hx⟩ := h.open_
 clear h
 replace hx := hide hx
 replace hR := hide hR
 have hmk := fun W => run_make_mat R.length hn .i64 .i64 W
 obtain ⟨g, hg⟩ : ∃ g, g = w.heap.size := ⟨_, rfl⟩
 have hM0 : Hid (MatP (w.alloc (.cells (zMat R.length) 76)) g R.length (FillTo 0 0) (ratRows R) ∧ Ext w (w.alloc (.cells (zMat R.length) 76))) := ⟨⟨⟨_, Blk.new' _ _ hg, zMat_size _⟩, fun k i _ _ h => by rcases h with h | h <;> omega⟩, (Ext.refl w).alloc _⟩
 go_enter Tryz.func37, Tryz.ntmps37
 go_wp2
 rw [← hg]
 generalize (w.alloc (.cells (zMat R.length) 76)) = w0 at *
 clear hmk
 replace hg := hide hg
 go_loopw [20] (fun s wr => ∃ k : Nat, k ≤ R.length ∧ s = .int .i64 k ∧ Hid (MatP wr g R.length (FillTo k 0) (ratRows R) ∧ Ext w wr)) (fun s _ => R.length - (intOf s).toNat)
 case atStart => exact ⟨0, by omega, rfl, hM0.out⟩
 case round =>
  clear hM0
  obtain ⟨k, hk, rfl, hI⟩ := hrel
  by_cases hlt : k < R.length
  ·obtain ⟨gg, o, rfl, hgl, hcl⟩ := hx.out (by omega)
   replace hcl := hide fun j (hj : j < 8) => hI.out.2.cellv (hcl k j hlt hj)
   have hrb : Hid (In8 (rowAt R k) (-1000) 1000) := hR.out _ (rowAt_mem hlt)
   have hrr : Hid (∀ j, ratRows R k j = ((rowAt R k j : Int) : Rat)) := fun j => rfl
   generalize rowAt R k = r at *
   have r0 : (wr).cell? ⟨gg, o + k * 8, none⟩ = some (.int .i64 (r 0)) := hcl.out 0 (by omega)
   have r1 : (wr).cell? ⟨gg, o + k * 8 + 1, none⟩ = some (.int .i64 (r 1)) := hcl.out 1 (by omega)
   have r2 : (wr).cell? ⟨gg, o + k * 8 + 2, none⟩ = some (.int .i64 (r 2)) := hcl.out 2 (by omega)
   have r3 : (wr).cell? ⟨gg, o + k * 8 + 3, none⟩ = some (.int .i64 (r 3)) := hcl.out 3 (by omega)
   have r4 : (wr).cell? ⟨gg, o + k * 8 + 4, none⟩ = some (.int .i64 (r 4)) := hcl.out 4 (by omega)
   have r5 : (wr).cell? ⟨gg, o + k * 8 + 5, none⟩ = some (.int .i64 (r 5)) := hcl.out 5 (by omega)
   have r6 : (wr).cell? ⟨gg, o + k * 8 + 6, none⟩ = some (.int .i64 (r 6)) := hcl.out 6 (by omega)
   have r7 : (wr).cell? ⟨gg, o + k * 8 + 7, none⟩ = some (.int .i64 (r 7)) := hcl.out 7 (by omega)
   have hI2 : Hid (MatP (wr.alloc (.cells #[.int .i64 (r 0), .int .i64 (r 1), .int .i64 (r 2), .int .i64 (r 3), .int .i64 (r 4), .int .i64 (r 5), .int .i64 (r 6), .int .i64 (r 7)] 35)) g R.length (FillTo k 0) (ratRows R) ∧ Ext w (wr.alloc (.cells #[.int .i64 (r 0), .int .i64 (r 1), .int .i64 (r 2), .int .i64 (r 3), .int .i64 (r 4), .int .i64 (r 5), .int .i64 (r 6), .int .i64 (r 7)] 35))) := ⟨hI.out.1.ext ((Ext.refl _).alloc _), hI.out.2.alloc _⟩
   have hd1 : decide (k < R.length) = true := by simpa using hlt
   go_wp2
   generalize (wr.alloc (.cells #[.int .i64 (r 0), .int .i64 (r 1), .int .i64 (r 2), .int .i64 (r 3), .int .i64 (r 4), .int .i64 (r 5), .int .i64 (r 6), .int .i64 (r 7)] 35)) = w2 at *
   clear r0 r1 r2 r3 r4 r5 r6 r7 hcl hI
   go_loopw [26] (fun s wr => ∃ i : Nat, i ≤ 8 ∧ s = .int .i64 i ∧ Hid (MatP wr g R.length (FillTo k i) (ratRows R) ∧ Ext w wr)) (fun s _ => 8 - (intOf s).toNat)
   case atStart => exact ⟨0, by omega, rfl, hI2.out⟩
   case round =>
    clear hI2
    obtain ⟨i, hi, rfl, hJ⟩ := hrel
    by_cases hi8 : i < 8
    ·have hix := fun W => run_index_row r i hi8 W
     have hb := hrb.out i hi8
     have hrr1 := hide (hrr.out i)
     have hd8 : decide ((i : Int) < 8) = true := by simp; omega
     generalize r i = x at *
     go_wp2
     have hk1 : (k : Int) < R.length := by omega
     have hk2 : (0 : Int) ≤ k := by omega
     have hi1 : (i : Int) < 8 := by omega
     have hi2 : (0 : Int) ≤ i := by omega

     refine wp_region_v (by kernel_rfl) [[], [], [], [], [(33, 3)], [(30, 0), (31, 1)], [(35, 5), (32, 2)]] [[], [], [], [], [3], [0, 1], [0, 1, 2, 3, 4, 5]]
      [fun v _ => v = .slice (some ⟨g, 0, none⟩) R.length R.length, fun v _ => v = .int .i64 (k : Int), fun v _ => v = .int .i64 (i : Int), fun v _ => v = .int .i64 (x : Int), fun v w' => ∃ b A n c b' A' n' c', v = .agg #[.bool b, .slice A n c, .bool b', .slice A' n' c'] ∧ IsRat w' (.bool b) (.slice A n c) (.bool b') (.slice A' n' c') ((x : Rat)), fun v _ => v = .pointer (some ⟨g, k * 32, none⟩), fun v _ => v = .pointer (some ⟨g, k * 32 + i * 4, none⟩)]
      rfl (by kernel_rfl) (by kernel_rfl) ?stab ?steps ?fin
     case stab => exact .cons (Stab.eq _) (.cons (Stab.eq _) (.cons (Stab.eq _) (.cons (Stab.eq _) (.cons (fun _ _ _ he ⟨b, A, n, c, b', A', n', c', h1, h2⟩ => ⟨b, A, n, c, b', A', n', c', h1, h2.ext he⟩) (.cons (Stab.eq _) (.cons (Stab.eq _) .nil))))))
     case steps =>
      refine .cons ?s0 (.cons ?s1 (.cons ?s2 (.cons ?s3 (.cons ?s4 (.cons ?s5 (.cons ?s6 .nil))))))
      case s0 =>
       intro w' ev hE hk ha hc hf
       have e3 : ev (.tmp 3) = .slice (some ⟨g, 0, none⟩) R.length R.length := ha 3 (by decide)
       exact opStep_val (by simp [execOp, e3, go_sem]) rfl
      case s1 =>
       intro w' ev hE hk ha hc hf
       have e4 : ev (.tmp 4) = .int .i64 (k : Int) := ha 4 (by decide)
       exact opStep_val (by simp [execOp, e4, go_sem]) rfl
      case s2 =>
       intro w' ev hE hk ha hc hf
       have e6 : ev (.tmp 6) = .int .i64 (i : Int) := ha 6 (by decide)
       exact opStep_val (by simp [execOp, e6, go_sem]) rfl
      case s3 =>
       intro w' ev hE hk ha hc hf
       have e7 : ev (.tmp 7) = .int .i64 (x : Int) := ha 7 (by decide)
       exact opStep_val (by simp [execOp, e7, go_sem]) rfl
      case s4 =>
       intro w' ev hE hk ha hc hf
       have e33 : ev (.tmp 33) = .int .i64 (x : Int) := hk.1 _ rfl
       refine opStep_call (by simp [execOp, resolve, invoke, hf, e33, go_sem]) (Whole_any x _ (by omega) (by omega)) ?_
       rintro e w1 ⟨b1, b2, A1, A2, n1, d1, n2, d2, rfl, hI1, hE1⟩
       exact ⟨_, rfl, hE1, b1, A1, n1, d1, b2, A2, n2, d2, rfl, hI1⟩
      case s5 =>
       intro w' ev hE hk ha hc hf
       have e30 : ev (.tmp 30) = .slice (some ⟨g, 0, none⟩) R.length R.length := hk.1 _ rfl
       have e31 : ev (.tmp 31) = .int .i64 (k : Int) := hk.2.1 _ rfl
       exact opStep_val (by simp [execOp, e30, e31, hk1, hk2, go_sem]) rfl
      case s6 =>
       intro w' ev hE hk ha hc hf
       have e35 : ev (.tmp 35) = .pointer (some ⟨g, k * 32, none⟩) := hk.1 _ rfl
       have e32 : ev (.tmp 32) = .int .i64 (i : Int) := hk.2.1 _ rfl
       exact opStep_val (by simp [execOp, e35, e32, hi1, hi2, go_sem]) rfl
     case fin =>
      intro gf w' hE hF

      obtain ⟨b5, A5, n5, c5, b6, A6, n6, c6, e5, hI5⟩ := hF 4 _ rfl
      have e6 := hF 6 _ rfl
      simp only [List.length_cons, List.length_nil, Nat.reduceAdd, List.drop_succ_cons, List.drop_zero, List.take_succ_cons, List.take_zero, putG, Act.put, List.setIfInBounds_toArray, List.set_cons_succ, List.set_cons_zero, e5, e6, hF 0 _ rfl, hF 1 _ rfl, hF 2 _ rfl, hF 3 _ rfl, hF 5 _ rfl]
      have hM1 := hJ.out.1.ext ((Ext.refl _).drew.trans hE)
      obtain ⟨v0, s0⟩ := hM1.some (o := k * 32 + i * 4) (by omega)
      obtain ⟨v1, s1⟩ := hM1.some (o := k * 32 + i * 4 + 1) (by omega)
      obtain ⟨v2, s2⟩ := hM1.some (o := k * 32 + i * 4 + 2) (by omega)
      obtain ⟨v3, s3⟩ := hM1.some (o := k * 32 + i * 4 + 3) (by omega)
      have z := hM1.frozen
      have hM3 : Hid (MatP (rat4 w' g (k * 32 + i * 4) (.bool b5) (.slice A5 n5 c5) (.bool b6) (.slice A6 n6 c6)) g R.length (FillTo k (i + 1)) (ratRows R)) := hM1.put hlt hi8 hI5 hrr1.out fun a b ha hb hd hne => ⟨by unfold FillTo at *; omega, rfl⟩
      have hE3 : Hid (Ext w (rat4 w' g (k * 32 + i * 4) (.bool b5) (.slice A5 n5 c5) (.bool b6) (.slice A6 n6 c6))) := (hJ.out.2.drew.trans hE).rat4 (by rw [hg.out]; omega) _ _ _ _ _
      replace hM1 := hide hM1
      replace hI5 := hide hI5
      replace hE := hide hE
      clear hF e5 e6 hk1 hk2 hi1 hi2
      go_wp2
      exact ⟨⟨i + 1, hi8, by simp, hM3.out, hE3.out⟩, by simp [intOf]; omega⟩
    ·obtain rfl : i = 8 := by omega
     go_wp2
     exact ⟨⟨k + 1, hlt, by simp, hJ.out.1.congr fun a b ha hb hd => ⟨by unfold FillTo at *; omega, rfl⟩, hJ.out.2⟩, by simp [intOf]; omega⟩
  ·obtain rfl : k = R.length := by omega
   have hMr : Hid (MatAt wr g R.length (ratRows R) ∧ Ext w wr) := ⟨hI.out.1.congr fun a b ha hb hd => ⟨.inl ha, rfl⟩, hI.out.2⟩
   have hst : Hid (∃ M, RankInv (ratRows R) R.length 0 0 M ∧ SzM M R.length (szOf 0) ∧ MatAt wr g R.length M ∧ Ext w wr) := ⟨_, RankInv.start _ _, szM_start hR.out, hMr.out.1, hMr.out.2⟩
   go_wp2
   clear hI hMr hx hR
   go_loopw [8, 39] (fun rs s wr => ∃ i r : Nat, i ≤ 8 ∧ r ≤ i ∧ r ≤ R.length ∧ s = .int .i64 i ∧ rs = .int .i64 r ∧ Hid (∃ M, RankInv (ratRows R) R.length i r M ∧ SzM M R.length (szOf i) ∧ MatAt wr g R.length M ∧ Ext w wr)) (fun _ s _ => 8 - (intOf s).toNat)
   case atStart => exact ⟨0, 0, by omega, by omega, by omega, rfl, rfl, hst.out⟩
   case round =>
    clear hst
    obtain ⟨i, r, hi, hri, hrn, rfl, rfl, hJ⟩ := hrel
    obtain ⟨M, hJ⟩ := hJ.out
    replace hJ := hide hJ
    by_cases hi8 : i < 8
    ·have hd8 : decide ((i : Int) < 8) = true := by simp; omega
     have hW : Hid (MatAt (wr.alloc (.cells #[.int .i64 i] 3)) g R.length M ∧ Ext w (wr.alloc (.cells #[.int .i64 i] 3)) ∧ w.heap.size ≤ wr.heap.size ∧ Blk (wr.alloc (.cells #[.int .i64 i] 3)) wr.heap.size 3 #[.int .i64 i]) := ⟨hJ.out.2.2.1.ext ((Ext.refl _).alloc _), hJ.out.2.2.2.alloc _, hJ.out.2.2.2.size, Blk.new _ _ _⟩
     go_upto_region 15 with (fail)
     generalize (wr.alloc (.cells #[.int .i64 i] 3)) = w2 at *
     by_cases hrn' : r < R.length
     ·have hbx : w2.cell? ⟨wr.heap.size, 0, none⟩ = some (.int .i64 i) := hW.out.2.2.2.cell 0
      have hrd : decide (r < R.length) = true := by simpa using hrn'
      go_wp2_with fail
      refine (IndexFunc_any g R.length _ wr.heap.size i r M _ hW.out.1 hi8 hrn' hn hbx).mono ?_
      rintro e w3 ⟨z, rfl, hz, hE3⟩
      replace hz := hide hz
      have hW3 : Hid (MatAt w3 g R.length M ∧ Ext w w3 ∧ Blk w3 wr.heap.size 3 #[.int .i64 i]) := ⟨hW.out.1.ext hE3, hW.out.2.1.trans hE3, hW.out.2.2.2.ext hE3⟩
      clear hE3 hbx
      rcases hz.out with ⟨rfl, hzero⟩ | ⟨k, rfl, hkn, hpiv⟩
      ·replace hzero := hide hzero
       clear hz
       go_wp2
       exact ⟨⟨i + 1, r, by omega, by omega, by omega, by simp, rfl, M, hJ.out.1.skip hi8 hzero.out, hJ.out.2.1.mono (by simp only [szOf]; omega), hW3.out.1, hW3.out.2.1⟩, by simp [intOf]; omega⟩
      ·replace hpiv := hide hpiv
       clear hz
       have i1 : IntKind.i64.wrap ((r : Int) + k) = (r : Int) + k := IntWalk.i64_in _ (by omega)
       have i2 : (0 : Int) ≤ (r : Int) + k := by omega
       have i3 : ((r : Int) + k).toNat = r + k := by omega
       have i4 : (r : Int) + k < R.length := by omega
       have i6 : (r : Int) < R.length := by omega
       have hM3 : Hid (MatAt w3.drew g R.length M) := hW3.out.1
       obtain ⟨W, hW⟩ : ∃ W : Nat → World, Hid (W 0 = w3.drew ∧ W 1 = w3.drew.setCells g (r * 32) (rowCells w3.drew g ((r + k) * 32)).toList ∧ W 2 = swapW w3.drew g r (r + k)) := ⟨fun c => if c = 0 then w3.drew else if c = 1 then w3.drew.setCells g (r * 32) (rowCells w3.drew g ((r + k) * 32)).toList else swapW w3.drew g r (r + k), rfl, rfl, rfl⟩
       have hBg : wr.heap.size ≠ g := by
        have := Ty.lt hJ.out.2.2.1.ty
        omega
       go_wp2
       refine wp_region_d (by kernel_rfl) [[], [], [], [], [], [(52, 3), (53, 4)], [], [], [], [(56, 7), (57, 8)], [(55, 6), (58, 9)], [(59, 10)], [], [], [(61, 12), (62, 13)], [(63, 14)], [(49, 0), (50, 1)], [(65, 16), (60, 11)], [(51, 2), (54, 5)], [(66, 18), (64, 15)]] [[], [], [], [], [], [3, 4], [], [], [], [7, 8], [6, 7, 8, 9], [6, 7, 8, 9, 10], [], [], [12, 13], [12, 13, 14], [0, 1, 6, 7, 8, 9, 10, 11, 12, 13, 14, 15], [0, 1, 6, 7, 8, 9, 10, 11, 12, 13, 14, 15, 16], [0, 1, 2, 3, 4, 5, 6, 7, 8, 9, 10, 11, 12, 13, 14, 15, 16, 17], [0, 1, 2, 3, 4, 5, 6, 7, 8, 9, 10, 11, 12, 13, 14, 15, 16, 17, 18]] [17, 19] (fun i => [.slice (some ⟨g, 0, none⟩) R.length R.length, .int .i64 (r : Int), .slice (some ⟨g, 0, none⟩) R.length R.length, .int .i64 (r : Int), .int .i64 (k : Int), .int .i64 ((r : Int) + k), .slice (some ⟨g, 0, none⟩) R.length R.length, .int .i64 (r : Int), .int .i64 (k : Int), .int .i64 ((r : Int) + k), .pointer (some ⟨g, (r + k) * 32, none⟩), .agg (rowCells w3.drew g ((r + k) * 32)), .slice (some ⟨g, 0, none⟩) R.length R.length, .int .i64 (r : Int), .pointer (some ⟨g, r * 32, none⟩), .agg (rowCells w3.drew g (r * 32)), .pointer (some ⟨g, r * 32, none⟩), undef, .pointer (some ⟨g, (r + k) * 32, none⟩), undef].getD i undef) W (by kernel_rfl) (by kernel_rfl) (by kernel_rfl) (by kernel_rfl) (by kernel_rfl) (by kernel_rfl) hW.out.1 ?steps ?fin
       case steps =>
        refine ⟨?s0, ?s1, ?s2, ?s3, ?s4, ?s5, ?s6, ?s7, ?s8, ?s9, ?s10, ?s11, ?s12, ?s13, ?s14, ?s15, ?s16, ?s17, ?s18, ?s19, trivial⟩
        case s0 =>
         intro c ev he ha hc hf hcl h1 h2 h3
         have e3 : ev (.tmp 3) = .slice (some ⟨g, 0, none⟩) R.length R.length := ha 3 (by decide)
         refine dstep_val (v := .slice (some ⟨g, 0, none⟩) R.length R.length) ?_ rfl rfl
         simp [execOp, e3, go_sem]
        case s1 =>
         intro c ev he ha hc hf hcl h1 h2 h3
         have e8 : ev (.tmp 8) = .int .i64 (r : Int) := ha 8 (by decide)
         refine dstep_val (v := .int .i64 (r : Int)) ?_ rfl rfl
         simp [execOp, e8, go_sem]
        case s2 =>
         intro c ev he ha hc hf hcl h1 h2 h3
         have e3 : ev (.tmp 3) = .slice (some ⟨g, 0, none⟩) R.length R.length := ha 3 (by decide)
         refine dstep_val (v := .slice (some ⟨g, 0, none⟩) R.length R.length) ?_ rfl rfl
         simp [execOp, e3, go_sem]
        case s3 =>
         intro c ev he ha hc hf hcl h1 h2 h3
         have e8 : ev (.tmp 8) = .int .i64 (r : Int) := ha 8 (by decide)
         refine dstep_val (v := .int .i64 (r : Int)) ?_ rfl rfl
         simp [execOp, e8, go_sem]
        case s4 =>
         intro c ev he ha hc hf hcl h1 h2 h3
         have e10 : ev (.tmp 10) = .int .i64 (k : Int) := ha 10 (by decide)
         refine dstep_val (v := .int .i64 (k : Int)) ?_ rfl rfl
         simp [execOp, e10, go_sem]
        case s5 =>
         intro c ev he ha hc hf hcl h1 h2 h3
         have e52 : ev (.tmp 52) = .int .i64 (r : Int) := he.1
         have e53 : ev (.tmp 53) = .int .i64 (k : Int) := he.2.1
         refine dstep_val (v := .int .i64 ((r : Int) + k)) ?_ rfl rfl
         simp [execOp, e52, e53, i1, go_sem]
        case s6 =>
         intro c ev he ha hc hf hcl h1 h2 h3
         have e3 : ev (.tmp 3) = .slice (some ⟨g, 0, none⟩) R.length R.length := ha 3 (by decide)
         refine dstep_val (v := .slice (some ⟨g, 0, none⟩) R.length R.length) ?_ rfl rfl
         simp [execOp, e3, go_sem]
        case s7 =>
         intro c ev he ha hc hf hcl h1 h2 h3
         have e8 : ev (.tmp 8) = .int .i64 (r : Int) := ha 8 (by decide)
         refine dstep_val (v := .int .i64 (r : Int)) ?_ rfl rfl
         simp [execOp, e8, go_sem]
        case s8 =>
         intro c ev he ha hc hf hcl h1 h2 h3
         have e10 : ev (.tmp 10) = .int .i64 (k : Int) := ha 10 (by decide)
         refine dstep_val (v := .int .i64 (k : Int)) ?_ rfl rfl
         simp [execOp, e10, go_sem]
        case s9 =>
         intro c ev he ha hc hf hcl h1 h2 h3
         have e56 : ev (.tmp 56) = .int .i64 (r : Int) := he.1
         have e57 : ev (.tmp 57) = .int .i64 (k : Int) := he.2.1
         refine dstep_val (v := .int .i64 ((r : Int) + k)) ?_ rfl rfl
         simp [execOp, e56, e57, i1, go_sem]
        case s10 =>
         intro c ev he ha hc hf hcl h1 h2 h3
         have e55 : ev (.tmp 55) = .slice (some ⟨g, 0, none⟩) R.length R.length := he.1
         have e58 : ev (.tmp 58) = .int .i64 ((r : Int) + k) := he.2.1
         refine dstep_val (v := .pointer (some ⟨g, (r + k) * 32, none⟩)) ?_ rfl rfl
         simp [execOp, e55, e58, i2, i3, i4, hkn, go_sem]
        case s11 =>
         intro c ev he ha hc hf hcl h1 h2 h3
         have e59 : ev (.tmp 59) = .pointer (some ⟨g, (r + k) * 32, none⟩) := he.1
         have hc0 : c = 0 := by have := h1 0 17 rfl (by decide); omega
         subst hc0
         refine dstep_val (v := .agg (rowCells w3.drew g ((r + k) * 32))) ?_ rfl rfl
         rw [hW.out.1]
         exact opRun_load rfl e59 (run_load_row32 w3.drew g ((r + k) * 32) fun j hj => hM3.out.some (by omega))
        case s12 =>
         intro c ev he ha hc hf hcl h1 h2 h3
         have e3 : ev (.tmp 3) = .slice (some ⟨g, 0, none⟩) R.length R.length := ha 3 (by decide)
         refine dstep_val (v := .slice (some ⟨g, 0, none⟩) R.length R.length) ?_ rfl rfl
         simp [execOp, e3, go_sem]
        case s13 =>
         intro c ev he ha hc hf hcl h1 h2 h3
         have e8 : ev (.tmp 8) = .int .i64 (r : Int) := ha 8 (by decide)
         refine dstep_val (v := .int .i64 (r : Int)) ?_ rfl rfl
         simp [execOp, e8, go_sem]
        case s14 =>
         intro c ev he ha hc hf hcl h1 h2 h3
         have e61 : ev (.tmp 61) = .slice (some ⟨g, 0, none⟩) R.length R.length := he.1
         have e62 : ev (.tmp 62) = .int .i64 (r : Int) := he.2.1
         refine dstep_val (v := .pointer (some ⟨g, r * 32, none⟩)) ?_ rfl rfl
         simp [execOp, e61, e62, i6, hrn', go_sem]
        case s15 =>
         intro c ev he ha hc hf hcl h1 h2 h3
         have e63 : ev (.tmp 63) = .pointer (some ⟨g, r * 32, none⟩) := he.1
         have hc0 : c = 0 := by have := h1 0 17 rfl (by decide); omega
         subst hc0
         refine dstep_val (v := .agg (rowCells w3.drew g (r * 32))) ?_ rfl rfl
         rw [hW.out.1]
         exact opRun_load rfl e63 (run_load_row32 w3.drew g (r * 32) fun j hj => hM3.out.some (by omega))
        case s16 =>
         intro c ev he ha hc hf hcl h1 h2 h3
         have e49 : ev (.tmp 49) = .slice (some ⟨g, 0, none⟩) R.length R.length := he.1
         have e50 : ev (.tmp 50) = .int .i64 (r : Int) := he.2.1
         refine dstep_val (v := .pointer (some ⟨g, r * 32, none⟩)) ?_ rfl rfl
         simp [execOp, e49, e50, i6, hrn', go_sem]
        case s17 =>
         intro c ev he ha hc hf hcl h1 h2 h3
         have e65 : ev (.tmp 65) = .pointer (some ⟨g, r * 32, none⟩) := he.1
         have e60 : ev (.tmp 60) = .agg (rowCells w3.drew g ((r + k) * 32)) := he.2.1
         have hc0 : c = 0 := h3 0 rfl
         subst hc0
         refine dstep_store (w1 := W 1) ?_ rfl rfl
         rw [hW.out.1, hW.out.2.1]
         exact opRun_store rfl e65 e60 (run_store_row32 _ g (r * 32) _ (rowCells_size _ _ _) (rowCells_one hM3.out hkn) (fun j hj => hM3.out.some (by omega)) (fun j => hM3.out.frozen j))
        case s18 =>
         intro c ev he ha hc hf hcl h1 h2 h3
         have e51 : ev (.tmp 51) = .slice (some ⟨g, 0, none⟩) R.length R.length := he.1
         have e54 : ev (.tmp 54) = .int .i64 ((r : Int) + k) := he.2.1
         refine dstep_val (v := .pointer (some ⟨g, (r + k) * 32, none⟩)) ?_ rfl rfl
         simp [execOp, e51, e54, i2, i3, i4, hkn, go_sem]
        case s19 =>
         intro c ev he ha hc hf hcl h1 h2 h3
         have e66 : ev (.tmp 66) = .pointer (some ⟨g, (r + k) * 32, none⟩) := he.1
         have e64 : ev (.tmp 64) = .agg (rowCells w3.drew g (r * 32)) := he.2.1
         have hc0 : c = 1 := h3 1 rfl
         subst hc0
         refine dstep_store (w1 := W 2) ?_ rfl rfl
         rw [hW.out.2.1, hW.out.2.2]
         exact opRun_store rfl e66 e64 (run_store_row32 _ g ((r + k) * 32) _ (rowCells_size _ _ _) (rowCells_one hM3.out hrn') (fun j hj => by obtain ⟨v, hv⟩ := hM3.out.some (o := (r + k) * 32 + j) (by omega); exact setCells_some _ _ _ hv) (fun j => by rw [World.frozen?_setCells]; exact hM3.out.frozen j))
       case fin =>
        simp only [putG, Act.put, List.setIfInBounds_toArray, List.set_cons_succ, List.set_cons_zero, List.getD_cons_zero, List.getD_cons_succ, List.length_cons, List.length_nil, Nat.reduceAdd]
        rw [hW.out.2.2]
        have hS : Hid (MatAt (swapW w3.drew g r (r + k)) g R.length (swapQ M r (r + k)) ∧ Ext w (swapW w3.drew g r (r + k)) ∧ Blk (swapW w3.drew g r (r + k)) wr.heap.size 3 #[.int .i64 i]) := ⟨hM3.out.swap hrn' hkn, swapW_ext hW3.out.2.1.drew (by rw [hg.out]; omega) _ _, blk_swapW hW3.out.2.2.drew hBg _ _⟩
        generalize swapW w3.drew g r (r + k) = w4 at *
        have hnx := hide (hJ.out.1.elim hi8 (show r ≤ r + k by omega) hkn hpiv.out)
        have hp1 : Hid (swapQ M r (r + k) r i ≠ 0) := hide (by simp only [swapQ, if_true]; exact hpiv.out)
        have hz1 : Hid (∀ a, r ≤ a → a < R.length → ∀ b, b < i → swapQ M r (r + k) a b = 0) := fun a h1 h2 b hb => by
         simp only [swapQ]
         split
         ·exact hJ.out.1.zero _ (by omega) hkn b hb
         ·split
          ·exact hJ.out.1.zero _ (Nat.le_refl _) hrn' b hb
          ·exact hJ.out.1.zero a h1 h2 b hb
        have hs1 : Hid (SzM (swapQ M r (r + k)) R.length (szOf i)) := fun a b ha hb => by
         simp only [swapQ]
         split
         ·exact hJ.out.2.1 _ b hkn hb
         ·split
          ·exact hJ.out.2.1 _ b hrn' hb
          ·exact hJ.out.2.1 a b ha hb
        generalize swapQ M r (r + k) = M1 at *
        clear i1 i2 i3 i4 i6 hM3 hW hpiv
        clear hW3 hJ
        have hSz := szOf_le hi
        have hS1 : Hid (szOf (i + 1) = 4 * szOf i + 1) := rfl
        generalize szOf i = S at *
        generalize wr.heap.size = B at *
        go_wp2
        clear W
        have hst4 : Hid (MatAt w4 g R.length (elimQ M1 i r (r + 1)) ∧ Ext w w4 ∧ Blk w4 B 3 #[.int .i64 i]) := ⟨hS.out.1.congr fun a b ha hb _ => ⟨trivial, by simp only [elimQ]; rw [if_neg (by omega)]⟩, hS.out.2⟩
        go_loopw [11] (fun s wr => ∃ m : Nat, r + 1 ≤ m ∧ m ≤ R.length ∧ s = .int .i64 m ∧ Hid (MatAt wr g R.length (elimQ M1 i r m) ∧ Ext w wr ∧ Blk wr B 3 #[.int .i64 i])) (fun s _ => R.length - (intOf s).toNat)
        case atStart => exact ⟨r + 1, by omega, by omega, by simp, hst4.out⟩
        case round =>
         clear hst4 hS
         obtain ⟨m, hm1, hmn, rfl, hI⟩ := hrel
         by_cases hmlt : m < R.length
         ·have hd4 : decide (m < R.length) = true := by simpa using hmlt
          obtain ⟨x, x', X, X', o, k1, o', k1', p0, p1, p2, p3, pI⟩ := hI.out.1.2 m i hmlt hi8 trivial
          obtain ⟨y, y', Y, Y', l, k2, l', k2', q0, q1, q2, q3, qI⟩ := hI.out.1.2 r i hrn' hi8 trivial
          have hv1 : Hid (elimQ M1 i r m m i = M1 m i) := hide (by simp only [elimQ]; rw [if_neg (by omega)])
          have hv2 : Hid (elimQ M1 i r m r i = M1 r i) := hide (by simp only [elimQ]; rw [if_neg (by omega)])
          rw [hv1.out] at pI
          rw [hv2.out] at qI
          replace pI := hide pI
          replace qI := hide qI
          have hsp := hide (hs1.out m i hmlt hi8)
          have hsq := hide (hs1.out r i hrn' hi8)
          obtain ⟨inst, hinst⟩ : ∃ inst : Inhabited RegE.Base, Hid (inst.default.b = wr.heap.size ∧ inst.default.q = M1 m i / M1 r i) := ⟨⟨⟨wr.heap.size, M1 m i / M1 r i⟩⟩, rfl, rfl⟩
          have hcg : Hid (∀ w' : World, RegE.Ext wr.drew w' → ∀ o, w'.cell? ⟨g, o, none⟩ = wr.cell? ⟨g, o, none⟩) := fun w' h o => by
           obtain ⟨⟨cur, hb, _⟩, _⟩ := hI.out.1
           exact cellE (w := wr.drew) hb (by decide) h o
          have hcb : Hid (∀ w' : World, RegE.Ext wr.drew w' → w'.cell? ⟨B, 0, none⟩ = some (.int .i64 i)) := fun w' h => (cellE (w := wr.drew) hI.out.2.2 (by decide) h 0).trans (hI.out.2.2.cell 0)
          replace p0 := hide p0
          replace p1 := hide p1
          replace p2 := hide p2
          replace p3 := hide p3
          replace q0 := hide q0
          replace q1 := hide q1
          replace q2 := hide q2
          replace q3 := hide q3
          go_upto_region 21 with (fail)
          have i1 : (m : Int) < R.length := by omega
          have i2 : (r : Int) < R.length := by omega
          have i3 : (i : Int) < 8 := by omega
          refine RegE.wp_region_ext (by kernel_rfl) [⟨[], [], [0]⟩, ⟨[], [], [1]⟩, ⟨[], [], [2]⟩, ⟨[(76, 0), (77, 1)], [0, 1], [3]⟩, ⟨[(79, 3), (78, 2)], [0, 1, 2, 3], [4]⟩, ⟨[(80, 4)], [0, 1, 2, 3, 4], [5]⟩, ⟨[], [], [6]⟩, ⟨[], [], [7]⟩, ⟨[], [], [8]⟩, ⟨[(82, 6), (83, 7)], [6, 7], [9]⟩, ⟨[(85, 9), (84, 8)], [6, 7, 8, 9], [10]⟩, ⟨[(86, 10)], [6, 7, 8, 9, 10], [11]⟩, ⟨[(81, 5), (87, 11)], [0, 1, 2, 3, 4, 5, 6, 7, 8, 9, 10, 11], [12]⟩, ⟨[(88, 12)], [0, 1, 2, 3, 4, 5, 6, 7, 8, 9, 10, 11, 12], [13]⟩, ⟨[(75, 13)], [0, 1, 2, 3, 4, 5, 6, 7, 8, 9, 10, 11, 12, 13], [14]⟩, ⟨[(75, 13)], [0, 1, 2, 3, 4, 5, 6, 7, 8, 9, 10, 11, 12, 13], [15]⟩, ⟨[], [], [16]⟩, ⟨[(12, 16), (89, 14)], [0, 1, 2, 3, 4, 5, 6, 7, 8, 9, 10, 11, 12, 13, 14, 16], [16, 17]⟩] [unF (fun v _ => v = .slice (some ⟨g, 0, none⟩) R.length R.length), unF (fun v _ => v = .int .i64 (m : Int)), unF (fun v _ => v = .int .i64 (i : Int)), unF (fun v _ => v = .pointer (some ⟨g, m * 32, none⟩)), unF (fun v _ => v = .pointer (some ⟨g, m * 32 + i * 4, none⟩)), unF (fun v _ => v = .agg #[.bool x, .slice X o k1, .bool x', .slice X' o' k1']), unF (fun v _ => v = .slice (some ⟨g, 0, none⟩) R.length R.length), unF (fun v _ => v = .int .i64 (r : Int)), unF (fun v _ => v = .int .i64 (i : Int)), unF (fun v _ => v = .pointer (some ⟨g, r * 32, none⟩)), unF (fun v _ => v = .pointer (some ⟨g, r * 32 + i * 4, none⟩)), unF (fun v _ => v = .agg #[.bool y, .slice Y l k2, .bool y', .slice Y' l' k2']), unF (fun v w' => ∃ b A n c b' A' n' c', v = .tuple #[.agg #[.bool b, .slice A n c, .bool b', .slice A' n' c'], .int .i64 0] ∧ IsRat w' (.bool b) (.slice A n c) (.bool b') (.slice A' n' c') (M1 m i / M1 r i)), unF (fun v w' => ∃ b A n c b' A' n' c', v = .tuple #[.agg #[.bool b, .slice A n c, .bool b', .slice A' n' c'], .int .i64 0] ∧ IsRat w' (.bool b) (.slice A n c) (.bool b') (.slice A' n' c') (M1 m i / M1 r i)), unF (fun v w' => ∃ b A n c b' A' n' c', v = .agg #[.bool b, .slice A n c, .bool b', .slice A' n' c'] ∧ IsRat w' (.bool b) (.slice A n c) (.bool b') (.slice A' n' c') (M1 m i / M1 r i)), unF (fun v _ => v = .int .i64 0), unF (fun v w' => ∃ B2, v = .pointer (some ⟨B2, 0, none⟩) ∧ wr.heap.size ≤ B2 ∧ RegE.RatBlk w' B2), RegE.biF (fun u w' => ∃ B2, u = .pointer (some ⟨B2, 0, none⟩) ∧ RegE.HoldsR w' B2 (default : RegE.Base).q)] (by kernel_rfl) (by kernel_rfl) ?stab ?steps ?fin
          case stab =>
           exact (List.forall_mem_cons.2 ⟨RegE.stab_un (fun _ _ _ _ h => h), (List.forall_mem_cons.2 ⟨RegE.stab_un (fun _ _ _ _ h => h), (List.forall_mem_cons.2 ⟨RegE.stab_un (fun _ _ _ _ h => h), (List.forall_mem_cons.2 ⟨RegE.stab_un (fun _ _ _ _ h => h), (List.forall_mem_cons.2 ⟨RegE.stab_un (fun _ _ _ _ h => h), (List.forall_mem_cons.2 ⟨RegE.stab_un (fun _ _ _ _ h => h), (List.forall_mem_cons.2 ⟨RegE.stab_un (fun _ _ _ _ h => h), (List.forall_mem_cons.2 ⟨RegE.stab_un (fun _ _ _ _ h => h), (List.forall_mem_cons.2 ⟨RegE.stab_un (fun _ _ _ _ h => h), (List.forall_mem_cons.2 ⟨RegE.stab_un (fun _ _ _ _ h => h), (List.forall_mem_cons.2 ⟨RegE.stab_un (fun _ _ _ _ h => h), (List.forall_mem_cons.2 ⟨RegE.stab_un (fun _ _ _ _ h => h), (List.forall_mem_cons.2 ⟨RegE.stab_un (fun _ _ _ he ⟨b, A, n, c, b', A', n', c', h1, h2⟩ => ⟨b, A, n, c, b', A', n', c', h1, he.isRat h2⟩), (List.forall_mem_cons.2 ⟨RegE.stab_un (fun _ _ _ he ⟨b, A, n, c, b', A', n', c', h1, h2⟩ => ⟨b, A, n, c, b', A', n', c', h1, he.isRat h2⟩), (List.forall_mem_cons.2 ⟨RegE.stab_un (fun _ _ _ he ⟨b, A, n, c, b', A', n', c', h1, h2⟩ => ⟨b, A, n, c, b', A', n', c', h1, he.isRat h2⟩), (List.forall_mem_cons.2 ⟨RegE.stab_un (fun _ _ _ _ h => h), (List.forall_mem_cons.2 ⟨RegE.stab_un (fun _ _ _ he ⟨B2, h1, h2, h3⟩ => ⟨B2, h1, h2, he.ratBlk h3⟩), (List.forall_mem_cons.2 ⟨RegE.stab_bi (fun _ _ _ he ⟨B2, h1, h2⟩ => ⟨B2, h1, he.holds h2⟩), (fun _ h => by cases h)⟩)⟩)⟩)⟩)⟩)⟩)⟩)⟩)⟩)⟩)⟩)⟩)⟩)⟩)⟩)⟩)⟩)⟩)
          case steps =>
           refine ⟨?s0, ?s1, ?s2, ?s3, ?s4, ?s5, ?s6, ?s7, ?s8, ?s9, ?s10, ?s11, ?s12, ?s13, ?s14, ?s15, ?s16, ?s17, trivial⟩
           case s0 =>
            intro gf w' ev hE hk he ha hc hf
            refine ⟨fun _ => ?_, fun h => by cases h⟩
            have e3 : ev (.tmp 3) = .slice (some ⟨g, 0, none⟩) R.length R.length := ha 3 (by decide)
            exact opE_val (v := .slice (some ⟨g, 0, none⟩) R.length R.length) (by simp [execOp, e3, go_sem]) ⟨RegE.Ext.refl _, unF_self rfl⟩
           case s1 =>
            intro gf w' ev hE hk he ha hc hf
            refine ⟨fun _ => ?_, fun h => by cases h⟩
            have e11 : ev (.tmp 11) = .int .i64 (m : Int) := ha 11 (by decide)
            exact opE_val (v := .int .i64 (m : Int)) (by simp [execOp, e11, go_sem]) ⟨RegE.Ext.refl _, unF_self rfl⟩
           case s2 =>
            intro gf w' ev hE hk he ha hc hf
            refine ⟨fun _ => ?_, fun h => by cases h⟩
            have e9 : ev (.tmp 9) = .pointer (some ⟨B, 0, none⟩) := ha 9 (by decide)
            have c0 := hcb.out w' hE
            exact opE_val (v := .int .i64 (i : Int)) (by simp [execOp, e9, c0, go_sem]) ⟨RegE.Ext.refl _, unF_self rfl⟩
           case s3 =>
            intro gf w' ev hE hk he ha hc hf
            refine ⟨fun _ => ?_, fun h => by cases h⟩
            have e76 : ev (.tmp 76) = .slice (some ⟨g, 0, none⟩) R.length R.length := he.1.trans (show gf 0 = .slice (some ⟨g, 0, none⟩) R.length R.length from hk _ rfl 0 (by decide) _ _ rfl rfl)
            have e77 : ev (.tmp 77) = .int .i64 (m : Int) := he.2.1.trans (show gf 1 = .int .i64 (m : Int) from hk _ rfl 1 (by decide) _ _ rfl rfl)
            exact opE_val (v := .pointer (some ⟨g, m * 32, none⟩)) (by simp [execOp, e76, e77, i1, go_sem]) ⟨RegE.Ext.refl _, unF_self rfl⟩
           case s4 =>
            intro gf w' ev hE hk he ha hc hf
            refine ⟨fun _ => ?_, fun h => by cases h⟩
            have e79 : ev (.tmp 79) = .pointer (some ⟨g, m * 32, none⟩) := he.1.trans (show gf 3 = .pointer (some ⟨g, m * 32, none⟩) from hk _ rfl 3 (by decide) _ _ rfl rfl)
            have e78 : ev (.tmp 78) = .int .i64 (i : Int) := he.2.1.trans (show gf 2 = .int .i64 (i : Int) from hk _ rfl 2 (by decide) _ _ rfl rfl)
            exact opE_val (v := .pointer (some ⟨g, m * 32 + i * 4, none⟩)) (by simp [execOp, e79, e78, i3, go_sem]) ⟨RegE.Ext.refl _, unF_self rfl⟩
           case s5 =>
            intro gf w' ev hE hk he ha hc hf
            refine ⟨fun _ => ?_, fun h => by cases h⟩
            have e80 : ev (.tmp 80) = .pointer (some ⟨g, m * 32 + i * 4, none⟩) := he.1.trans (show gf 4 = .pointer (some ⟨g, m * 32 + i * 4, none⟩) from hk _ rfl 4 (by decide) _ _ rfl rfl)
            have c0 : w'.cell? ⟨g, m * 32 + i * 4, none⟩ = some (.bool x) := (hcg.out w' hE _).trans p0.out
            have c1 : w'.cell? ⟨g, m * 32 + i * 4 + 1, none⟩ = some (.slice X o k1) := (hcg.out w' hE _).trans p1.out
            have c2 : w'.cell? ⟨g, m * 32 + i * 4 + 2, none⟩ = some (.bool x') := (hcg.out w' hE _).trans p2.out
            have c3 : w'.cell? ⟨g, m * 32 + i * 4 + 3, none⟩ = some (.slice X' o' k1') := (hcg.out w' hE _).trans p3.out
            exact opE_val (v := .agg #[.bool x, .slice X o k1, .bool x', .slice X' o' k1']) (by simp [execOp, e80, c0, c1, c2, c3, go_sem]) ⟨RegE.Ext.refl _, unF_self rfl⟩
           case s6 =>
            intro gf w' ev hE hk he ha hc hf
            refine ⟨fun _ => ?_, fun h => by cases h⟩
            have e3 : ev (.tmp 3) = .slice (some ⟨g, 0, none⟩) R.length R.length := ha 3 (by decide)
            exact opE_val (v := .slice (some ⟨g, 0, none⟩) R.length R.length) (by simp [execOp, e3, go_sem]) ⟨RegE.Ext.refl _, unF_self rfl⟩
           case s7 =>
            intro gf w' ev hE hk he ha hc hf
            refine ⟨fun _ => ?_, fun h => by cases h⟩
            have e8 : ev (.tmp 8) = .int .i64 (r : Int) := ha 8 (by decide)
            exact opE_val (v := .int .i64 (r : Int)) (by simp [execOp, e8, go_sem]) ⟨RegE.Ext.refl _, unF_self rfl⟩
           case s8 =>
            intro gf w' ev hE hk he ha hc hf
            refine ⟨fun _ => ?_, fun h => by cases h⟩
            have e9 : ev (.tmp 9) = .pointer (some ⟨B, 0, none⟩) := ha 9 (by decide)
            have c0 := hcb.out w' hE
            exact opE_val (v := .int .i64 (i : Int)) (by simp [execOp, e9, c0, go_sem]) ⟨RegE.Ext.refl _, unF_self rfl⟩
           case s9 =>
            intro gf w' ev hE hk he ha hc hf
            refine ⟨fun _ => ?_, fun h => by cases h⟩
            have e82 : ev (.tmp 82) = .slice (some ⟨g, 0, none⟩) R.length R.length := he.1.trans (show gf 6 = .slice (some ⟨g, 0, none⟩) R.length R.length from hk _ rfl 6 (by decide) _ _ rfl rfl)
            have e83 : ev (.tmp 83) = .int .i64 (r : Int) := he.2.1.trans (show gf 7 = .int .i64 (r : Int) from hk _ rfl 7 (by decide) _ _ rfl rfl)
            exact opE_val (v := .pointer (some ⟨g, r * 32, none⟩)) (by simp [execOp, e82, e83, i2, go_sem]) ⟨RegE.Ext.refl _, unF_self rfl⟩
           case s10 =>
            intro gf w' ev hE hk he ha hc hf
            refine ⟨fun _ => ?_, fun h => by cases h⟩
            have e85 : ev (.tmp 85) = .pointer (some ⟨g, r * 32, none⟩) := he.1.trans (show gf 9 = .pointer (some ⟨g, r * 32, none⟩) from hk _ rfl 9 (by decide) _ _ rfl rfl)
            have e84 : ev (.tmp 84) = .int .i64 (i : Int) := he.2.1.trans (show gf 8 = .int .i64 (i : Int) from hk _ rfl 8 (by decide) _ _ rfl rfl)
            exact opE_val (v := .pointer (some ⟨g, r * 32 + i * 4, none⟩)) (by simp [execOp, e85, e84, i3, go_sem]) ⟨RegE.Ext.refl _, unF_self rfl⟩
           case s11 =>
            intro gf w' ev hE hk he ha hc hf
            refine ⟨fun _ => ?_, fun h => by cases h⟩
            have e86 : ev (.tmp 86) = .pointer (some ⟨g, r * 32 + i * 4, none⟩) := he.1.trans (show gf 10 = .pointer (some ⟨g, r * 32 + i * 4, none⟩) from hk _ rfl 10 (by decide) _ _ rfl rfl)
            have c0 : w'.cell? ⟨g, r * 32 + i * 4, none⟩ = some (.bool y) := (hcg.out w' hE _).trans q0.out
            have c1 : w'.cell? ⟨g, r * 32 + i * 4 + 1, none⟩ = some (.slice Y l k2) := (hcg.out w' hE _).trans q1.out
            have c2 : w'.cell? ⟨g, r * 32 + i * 4 + 2, none⟩ = some (.bool y') := (hcg.out w' hE _).trans q2.out
            have c3 : w'.cell? ⟨g, r * 32 + i * 4 + 3, none⟩ = some (.slice Y' l' k2') := (hcg.out w' hE _).trans q3.out
            exact opE_val (v := .agg #[.bool y, .slice Y l k2, .bool y', .slice Y' l' k2']) (by simp [execOp, e86, c0, c1, c2, c3, go_sem]) ⟨RegE.Ext.refl _, unF_self rfl⟩
           case s12 =>
            intro gf w' ev hE hk he ha hc hf
            refine ⟨fun _ => ?_, fun h => by cases h⟩
            have e81 : ev (.tmp 81) = .agg #[.bool x, .slice X o k1, .bool x', .slice X' o' k1'] := he.1.trans (show gf 5 = .agg #[.bool x, .slice X o k1, .bool x', .slice X' o' k1'] from hk _ rfl 5 (by decide) _ _ rfl rfl)
            have e87 : ev (.tmp 87) = .agg #[.bool y, .slice Y l k2, .bool y', .slice Y' l' k2'] := he.2.1.trans (show gf 11 = .agg #[.bool y, .slice Y l k2, .bool y', .slice Y' l' k2'] from hk _ rfl 11 (by decide) _ _ rfl rfl)
            refine opE_call (by simp [execOp, resolve, invoke, hf, e81, e87, go_sem]) (Div_any _ _ _ _ _ _ _ _ _ _ _ _ _ _ _ _ (M1 m i) (M1 r i) S S _ (hE.isRat pI.out) (hE.isRat qI.out) hsp.out hsq.out (by omega) (num_ne hp1.out)) ?_
            rintro e w1 ⟨b1, b2, A1, A2, n1, d1, n2, d2, rfl, hI1, hE1⟩
            exact ⟨_, rfl, RegE.Ext.of hE1, unF_self ⟨b1, A1, n1, d1, b2, A2, n2, d2, rfl, hI1⟩⟩
           case s13 =>
            intro gf w' ev hE hk he ha hc hf
            refine ⟨fun _ => ?_, fun h => by cases h⟩
            have t88 : ev (.tmp 88) = gf 12 := he.1
            have f88 := hk _ rfl 12 (by decide) _ _ rfl rfl
            obtain ⟨b1, A1, n1, d1, b2, A2, n2, d2, hv, hI1⟩ := f88
            have e88 := t88.trans hv
            exact opE_val (v := .tuple #[.agg #[.bool b1, .slice A1 n1 d1, .bool b2, .slice A2 n2 d2], .int .i64 0]) (by simp [execOp, e88, go_sem]) ⟨RegE.Ext.refl _, unF_self ⟨b1, A1, n1, d1, b2, A2, n2, d2, rfl, hI1⟩⟩
           case s14 =>
            intro gf w' ev hE hk he ha hc hf
            refine ⟨fun _ => ?_, fun h => by cases h⟩
            have t75 : ev (.tmp 75) = gf 13 := he.1
            have f75 := hk _ rfl 13 (by decide) _ _ rfl rfl
            obtain ⟨b1, A1, n1, d1, b2, A2, n2, d2, hv, hI1⟩ := f75
            have e75 := t75.trans hv
            exact opE_val (v := .agg #[.bool b1, .slice A1 n1 d1, .bool b2, .slice A2 n2 d2]) (by simp [execOp, e75, go_sem]) ⟨RegE.Ext.refl _, unF_self ⟨b1, A1, n1, d1, b2, A2, n2, d2, rfl, hI1⟩⟩
           case s15 =>
            intro gf w' ev hE hk he ha hc hf
            refine ⟨fun _ => ?_, fun h => by cases h⟩
            have t75 : ev (.tmp 75) = gf 13 := he.1
            have f75 := hk _ rfl 13 (by decide) _ _ rfl rfl
            obtain ⟨b1, A1, n1, d1, b2, A2, n2, d2, hv, hI1⟩ := f75
            have e75 := t75.trans hv
            exact opE_val (v := .int .i64 0) (by simp [execOp, e75, go_sem]) ⟨RegE.Ext.refl _, unF_self rfl⟩
           case s16 =>
            intro gf w' ev hE hk he ha hc hf
            refine ⟨fun _ => ?_, fun h => by cases h⟩
            exact opE_val (v := .pointer (some ⟨w'.heap.size, 0, none⟩)) (w' := w'.alloc (.cells #[.bool false, .slice none 0 0, .bool false, .slice none 0 0] 74)) (by simp [execOp, go_sem]) ⟨RegE.Ext.of ((Ext.refl _).alloc _), unF_self ⟨_, rfl, hE.1.2.2.2, _, Blk.new _ _ _, rfl⟩⟩
           case s17 =>
            intro gf w' ev hE hk he ha hc hf
            refine ⟨fun _ => ?_, fun h => by cases h⟩
            have t12 : ev (.tmp 12) = gf 16 := he.1
            have f12 := hk _ rfl 16 (by decide) _ _ rfl rfl
            have t89 : ev (.tmp 89) = gf 14 := he.2.1
            have f89 := hk _ rfl 14 (by decide) _ _ rfl rfl
            obtain ⟨b1, A1, n1, d1, b2, A2, n2, d2, hv, hI1⟩ := f89
            have e89 := t89.trans hv
            obtain ⟨B2, hv2, hs2, hrb⟩ := f12
            have e12 := t12.trans hv2
            obtain ⟨cs, hcs, hcz⟩ := hrb
            have z := fun q => Blk.frozen (cs := cs) hcs q
            have c0 : w'.cell? ⟨B2, 0, none⟩ = some cs[0] := (Blk.cell (cs := cs) hcs 0).trans (Array.getElem?_eq_getElem _)
            have c1 : w'.cell? ⟨B2, 1, none⟩ = some cs[1] := (Blk.cell (cs := cs) hcs 1).trans (Array.getElem?_eq_getElem _)
            have c2 : w'.cell? ⟨B2, 2, none⟩ = some cs[2] := (Blk.cell (cs := cs) hcs 2).trans (Array.getElem?_eq_getElem _)
            have c3 : w'.cell? ⟨B2, 3, none⟩ = some cs[3] := (Blk.cell (cs := cs) hcs 3).trans (Array.getElem?_eq_getElem _)
            refine opE_skip (w' := put4 w' B2 (.bool b1) (.slice A1 n1 d1) (.bool b2) (.slice A2 n2 d2)) (by simp [execOp, e12, e89, c0, c1, c2, c3, z, go_sem]; rfl) ⟨ext_put4 ⟨cs, hcs, hcz⟩ (by rw [hinst.out.1]; exact hs2) hinst.out.2 hI1, ?_⟩
            refine ⟨B2, ?_, ?_⟩
            ·show upd gf 17 undef 16 = _
             simp only [upd]; exact hv2
            ·rw [hinst.out.2]; exact holds_put4 ⟨cs, hcs, hcz⟩ hI1
          case fin =>
           intro gf w' hE hF
           obtain ⟨B2, e16, hB2⟩ := hF 17 _ _ rfl rfl
           have e15 := hF 15 _ _ rfl rfl
           replace e16 : gf 16 = .pointer (some ⟨B2, 0, none⟩) := e16
           replace e15 : gf 15 = .int .i64 0 := e15
           have hE' : Ext wr w' := ext_of_E hE hinst.out.1
           have hsB : wr.heap.size ≤ B2 := by
            obtain ⟨B3, e3, h3, _⟩ := hF 16 _ _ rfl rfl
            replace e3 : gf 16 = .pointer (some ⟨B3, 0, none⟩) := e3
            rw [e16] at e3; cases e3; exact h3
           simp only [List.length_cons, List.length_nil, Nat.reduceAdd, List.drop_succ_cons, List.drop_zero, List.take_succ_cons, List.take_zero, putG, Act.put, List.setIfInBounds_toArray, List.set_cons_succ, List.set_cons_zero, e16, e15]
           have hR2 : RatAt w' B2 0 (M1 m i / M1 r i) := by
            rw [hinst.out.2] at hB2
            obtain ⟨x, x', X, X', n, c, n', c', h3, h4⟩ := hB2
            have hb := fun q => Blk.cell (cs := #[.bool x, .slice X n c, .bool x', .slice X' n' c']) h3 q
            exact ⟨x, x', X, X', n, c, n', c', hb 0, hb 1, hb 2, hb 3, h4⟩
           have hgB : g ≠ B2 := by have := Ty.lt hI.out.1.ty; omega
           have hst5 : Hid (MatAt w' g R.length (elimMid M1 i r m i) ∧ Ext w w' ∧ Blk w' B 3 #[.int .i64 i] ∧ RatAt w' B2 0 (M1 m i / M1 r i)) := ⟨(hI.out.1.ext hE').congr fun a b ha hb _ => ⟨trivial, by simp only [elimMid]; rw [if_neg (by omega)]⟩, hI.out.2.1.trans hE', hI.out.2.2.ext hE', hR2⟩
           have hbx : w'.cell? ⟨B, 0, none⟩ = some (.int .i64 i) := hst5.out.2.2.1.cell 0
           clear hF e15 e16 hE hE' hR2 hB2 hcg hcb p0 p1 p2 p3 q0 q1 q2 q3 pI qI hv1 hv2 i1 i2 i3 hsB
           replace hinst := hide trivial
           go_wp2
           clear hbx
           go_loopw [14] (fun s wr => ∃ j : Nat, i ≤ j ∧ j ≤ 8 ∧ s = .int .i64 j ∧ Hid (MatAt wr g R.length (elimMid M1 i r m j) ∧ Ext w wr ∧ Blk wr B 3 #[.int .i64 i] ∧ RatAt wr B2 0 (M1 m i / M1 r i))) (fun s _ => 8 - (intOf s).toNat)
           case atStart => exact ⟨i, by omega, by omega, rfl, hst5.out⟩
           case round =>
            clear hst5 hI
            obtain ⟨j, hij, hj, rfl, hK⟩ := hrel
            by_cases hj8 : j < 8
            ·have hd8 : decide ((j : Int) < 8) = true := by simp; omega
             obtain ⟨x, x', X, X', o, k1, o', k1', p0, p1, p2, p3, pI⟩ := hK.out.1.2 m j hmlt hj8 trivial
             obtain ⟨y, y', Y, Y', l, k2, l', k2', q0, q1, q2, q3, qI⟩ := hK.out.1.2 r j hrn' hj8 trivial
             obtain ⟨zz, z', Z, Z', t, k3, t', k3', r0, r1, r2, r3, rI⟩ := hK.out.2.2.2
             have hv1 : Hid (elimMid M1 i r m j m j = M1 m j) := hide (by simp only [elimMid, elimQ]; rw [if_neg (by omega), if_neg (by omega)])
             have hv2 : Hid (elimMid M1 i r m j r j = M1 r j) := hide (by simp only [elimMid, elimQ]; rw [if_neg (by omega), if_neg (by omega)])
             rw [hv1.out] at pI
             rw [hv2.out] at qI
             replace pI := hide pI
             replace qI := hide qI
             replace rI := hide rI
             have hsp := hide (hs1.out m j hmlt hj8)
             have hsq := hide (hs1.out r j hrn' hj8)
             have hsr : Hid (RSz (M1 m i / M1 r i) (S + S)) := (hs1.out m i hmlt hi8).div (hs1.out r i hrn' hi8) hp1.out
             generalize hff : M1 m i / M1 r i = ff at *
             replace hff := hide hff
             replace p0 := hide p0
             replace p1 := hide p1
             replace p2 := hide p2
             replace p3 := hide p3
             replace q0 := hide q0
             replace q1 := hide q1
             replace q2 := hide q2
             replace q3 := hide q3
             replace r0 := hide r0
             replace r1 := hide r1
             replace r2 := hide r2
             replace r3 := hide r3
             go_upto_region 25 with (fail)
             have i1 : (m : Int) < R.length := by omega
             have i2 : (r : Int) < R.length := by omega
             have i3 : (j : Int) < 8 := by omega
             refine wp_region_v (by kernel_rfl) [[], [], [], [], [], [], [(99, 3), (100, 4)], [(102, 6), (101, 5)], [(103, 7)], [], [], [], [], [(106, 10), (107, 11)], [(109, 13), (108, 12)], [(110, 14)], [(105, 9), (111, 15)], [(104, 8), (112, 16)], [(96, 0), (97, 1)], [(114, 18), (98, 2)]] [[], [], [], [], [], [], [3, 4], [3, 4, 5, 6], [3, 4, 5, 6, 7], [], [], [], [], [10, 11], [10, 11, 12, 13], [10, 11, 12, 13, 14], [9, 10, 11, 12, 13, 14, 15], [3, 4, 5, 6, 7, 8, 9, 10, 11, 12, 13, 14, 15, 16], [0, 1], [0, 1, 2, 3, 4, 5, 6, 7, 8, 9, 10, 11, 12, 13, 14, 15, 16, 17, 18]]
              [fun v _ => v = .slice (some ⟨g, 0, none⟩) R.length R.length, fun v _ => v = .int .i64 (m : Int), fun v _ => v = .int .i64 (j : Int), fun v _ => v = .slice (some ⟨g, 0, none⟩) R.length R.length, fun v _ => v = .int .i64 (m : Int), fun v _ => v = .int .i64 (j : Int), fun v _ => v = .pointer (some ⟨g, m * 32, none⟩), fun v _ => v = .pointer (some ⟨g, m * 32 + j * 4, none⟩), fun v _ => v = .agg #[.bool x, .slice X o k1, .bool x', .slice X' o' k1'], fun v _ => v = .agg #[.bool zz, .slice Z t k3, .bool z', .slice Z' t' k3'], fun v _ => v = .slice (some ⟨g, 0, none⟩) R.length R.length, fun v _ => v = .int .i64 (r : Int), fun v _ => v = .int .i64 (j : Int), fun v _ => v = .pointer (some ⟨g, r * 32, none⟩), fun v _ => v = .pointer (some ⟨g, r * 32 + j * 4, none⟩), fun v _ => v = .agg #[.bool y, .slice Y l k2, .bool y', .slice Y' l' k2'], fun v w' => ∃ b A n c b' A' n' c', v = .agg #[.bool b, .slice A n c, .bool b', .slice A' n' c'] ∧ IsRat w' (.bool b) (.slice A n c) (.bool b') (.slice A' n' c') (ff * M1 r j), fun v w' => ∃ b A n c b' A' n' c', v = .agg #[.bool b, .slice A n c, .bool b', .slice A' n' c'] ∧ IsRat w' (.bool b) (.slice A n c) (.bool b') (.slice A' n' c') (M1 m j - ff * M1 r j), fun v _ => v = .pointer (some ⟨g, m * 32, none⟩), fun v _ => v = .pointer (some ⟨g, m * 32 + j * 4, none⟩)]
              rfl (by kernel_rfl) (by kernel_rfl) ?stab ?steps ?fin
             case stab => exact .cons (Stab.eq _) (.cons (Stab.eq _) (.cons (Stab.eq _) (.cons (Stab.eq _) (.cons (Stab.eq _) (.cons (Stab.eq _) (.cons (Stab.eq _) (.cons (Stab.eq _) (.cons (Stab.eq _) (.cons (Stab.eq _) (.cons (Stab.eq _) (.cons (Stab.eq _) (.cons (Stab.eq _) (.cons (Stab.eq _) (.cons (Stab.eq _) (.cons (Stab.eq _) (.cons (fun _ _ _ he ⟨b, A, n, c, b', A', n', c', h1, h2⟩ => ⟨b, A, n, c, b', A', n', c', h1, h2.ext he⟩) (.cons (fun _ _ _ he ⟨b, A, n, c, b', A', n', c', h1, h2⟩ => ⟨b, A, n, c, b', A', n', c', h1, h2.ext he⟩) (.cons (Stab.eq _) (.cons (Stab.eq _) .nil)))))))))))))))))))
             case steps =>
              refine .cons ?s0 (.cons ?s1 (.cons ?s2 (.cons ?s3 (.cons ?s4 (.cons ?s5 (.cons ?s6 (.cons ?s7 (.cons ?s8 (.cons ?s9 (.cons ?s10 (.cons ?s11 (.cons ?s12 (.cons ?s13 (.cons ?s14 (.cons ?s15 (.cons ?s16 (.cons ?s17 (.cons ?s18 (.cons ?s19 .nil)))))))))))))))))))
              case s0 =>
               intro w' ev hE hk ha hc hf
               have e3 : ev (.tmp 3) = .slice (some ⟨g, 0, none⟩) R.length R.length := ha 3 (by decide)
               exact opStep_val (by simp [execOp, e3, go_sem]) rfl
              case s1 =>
               intro w' ev hE hk ha hc hf
               have e11 : ev (.tmp 11) = .int .i64 (m : Int) := ha 11 (by decide)
               exact opStep_val (by simp [execOp, e11, go_sem]) rfl
              case s2 =>
               intro w' ev hE hk ha hc hf
               have e14 : ev (.tmp 14) = .int .i64 (j : Int) := ha 14 (by decide)
               exact opStep_val (by simp [execOp, e14, go_sem]) rfl
              case s3 =>
               intro w' ev hE hk ha hc hf
               have e3 : ev (.tmp 3) = .slice (some ⟨g, 0, none⟩) R.length R.length := ha 3 (by decide)
               exact opStep_val (by simp [execOp, e3, go_sem]) rfl
              case s4 =>
               intro w' ev hE hk ha hc hf
               have e11 : ev (.tmp 11) = .int .i64 (m : Int) := ha 11 (by decide)
               exact opStep_val (by simp [execOp, e11, go_sem]) rfl
              case s5 =>
               intro w' ev hE hk ha hc hf
               have e14 : ev (.tmp 14) = .int .i64 (j : Int) := ha 14 (by decide)
               exact opStep_val (by simp [execOp, e14, go_sem]) rfl
              case s6 =>
               intro w' ev hE hk ha hc hf
               have e99 : ev (.tmp 99) = .slice (some ⟨g, 0, none⟩) R.length R.length := hk.1 _ rfl
               have e100 : ev (.tmp 100) = .int .i64 (m : Int) := hk.2.1 _ rfl
               exact opStep_val (by simp [execOp, e99, e100, i1, go_sem]) rfl
              case s7 =>
               intro w' ev hE hk ha hc hf
               have e102 : ev (.tmp 102) = .pointer (some ⟨g, m * 32, none⟩) := hk.1 _ rfl
               have e101 : ev (.tmp 101) = .int .i64 (j : Int) := hk.2.1 _ rfl
               exact opStep_val (by simp [execOp, e102, e101, i3, go_sem]) rfl
              case s8 =>
               intro w' ev hE hk ha hc hf
               have e103 : ev (.tmp 103) = .pointer (some ⟨g, m * 32 + j * 4, none⟩) := hk.1 _ rfl
               have c0 : w'.cell? ⟨g, m * 32 + j * 4, none⟩ = some (.bool x) := hE.cellv p0.out
               have c1 : w'.cell? ⟨g, m * 32 + j * 4 + 1, none⟩ = some (.slice X o k1) := hE.cellv p1.out
               have c2 : w'.cell? ⟨g, m * 32 + j * 4 + 2, none⟩ = some (.bool x') := hE.cellv p2.out
               have c3 : w'.cell? ⟨g, m * 32 + j * 4 + 3, none⟩ = some (.slice X' o' k1') := hE.cellv p3.out
               exact opStep_val (by simp [execOp, e103, c0, c1, c2, c3, go_sem]) rfl
              case s9 =>
               intro w' ev hE hk ha hc hf
               have e12 : ev (.tmp 12) = .pointer (some ⟨B2, 0, none⟩) := ha 12 (by decide)
               have c0 : w'.cell? ⟨B2, 0, none⟩ = some (.bool zz) := hE.cellv r0.out
               have c1 : w'.cell? ⟨B2, 1, none⟩ = some (.slice Z t k3) := hE.cellv r1.out
               have c2 : w'.cell? ⟨B2, 2, none⟩ = some (.bool z') := hE.cellv r2.out
               have c3 : w'.cell? ⟨B2, 3, none⟩ = some (.slice Z' t' k3') := hE.cellv r3.out
               exact opStep_val (by simp [execOp, e12, c0, c1, c2, c3, go_sem]) rfl
              case s10 =>
               intro w' ev hE hk ha hc hf
               have e3 : ev (.tmp 3) = .slice (some ⟨g, 0, none⟩) R.length R.length := ha 3 (by decide)
               exact opStep_val (by simp [execOp, e3, go_sem]) rfl
              case s11 =>
               intro w' ev hE hk ha hc hf
               have e8 : ev (.tmp 8) = .int .i64 (r : Int) := ha 8 (by decide)
               exact opStep_val (by simp [execOp, e8, go_sem]) rfl
              case s12 =>
               intro w' ev hE hk ha hc hf
               have e14 : ev (.tmp 14) = .int .i64 (j : Int) := ha 14 (by decide)
               exact opStep_val (by simp [execOp, e14, go_sem]) rfl
              case s13 =>
               intro w' ev hE hk ha hc hf
               have e106 : ev (.tmp 106) = .slice (some ⟨g, 0, none⟩) R.length R.length := hk.1 _ rfl
               have e107 : ev (.tmp 107) = .int .i64 (r : Int) := hk.2.1 _ rfl
               exact opStep_val (by simp [execOp, e106, e107, i2, go_sem]) rfl
              case s14 =>
               intro w' ev hE hk ha hc hf
               have e109 : ev (.tmp 109) = .pointer (some ⟨g, r * 32, none⟩) := hk.1 _ rfl
               have e108 : ev (.tmp 108) = .int .i64 (j : Int) := hk.2.1 _ rfl
               exact opStep_val (by simp [execOp, e109, e108, i3, go_sem]) rfl
              case s15 =>
               intro w' ev hE hk ha hc hf
               have e110 : ev (.tmp 110) = .pointer (some ⟨g, r * 32 + j * 4, none⟩) := hk.1 _ rfl
               have c0 : w'.cell? ⟨g, r * 32 + j * 4, none⟩ = some (.bool y) := hE.cellv q0.out
               have c1 : w'.cell? ⟨g, r * 32 + j * 4 + 1, none⟩ = some (.slice Y l k2) := hE.cellv q1.out
               have c2 : w'.cell? ⟨g, r * 32 + j * 4 + 2, none⟩ = some (.bool y') := hE.cellv q2.out
               have c3 : w'.cell? ⟨g, r * 32 + j * 4 + 3, none⟩ = some (.slice Y' l' k2') := hE.cellv q3.out
               exact opStep_val (by simp [execOp, e110, c0, c1, c2, c3, go_sem]) rfl
              case s16 =>
               intro w' ev hE hk ha hc hf
               have e105 : ev (.tmp 105) = .agg #[.bool zz, .slice Z t k3, .bool z', .slice Z' t' k3'] := hk.1 _ rfl
               have e111 : ev (.tmp 111) = .agg #[.bool y, .slice Y l k2, .bool y', .slice Y' l' k2'] := hk.2.1 _ rfl
               refine opStep_call (by simp [execOp, resolve, invoke, hf, e105, e111, go_sem]) (Mul_any _ _ _ _ _ _ _ _ _ _ _ _ _ _ _ _ ff (M1 r j) (S + S) S _ (rI.out.ext ((Ext.refl _).drew.trans hE)) (qI.out.ext ((Ext.refl _).drew.trans hE)) hsr.out hsq.out (by omega)) ?_
               rintro e w1 ⟨b1, b2, A1, A2, n1, d1, n2, d2, rfl, hI1, hE1⟩
               exact ⟨_, rfl, hE1, b1, A1, n1, d1, b2, A2, n2, d2, rfl, hI1⟩
              case s17 =>
               intro w' ev hE hk ha hc hf
               have e104 : ev (.tmp 104) = .agg #[.bool x, .slice X o k1, .bool x', .slice X' o' k1'] := hk.1 _ rfl
               have f112 := hk.2.1 _ rfl
               obtain ⟨b1, A1, n1, d1, b2, A2, n2, d2, e112, hI1⟩ := f112
               refine opStep_call (by simp [execOp, resolve, invoke, hf, e104, e112, go_sem]) (Sub_any _ _ _ _ _ _ _ _ _ _ _ _ _ _ _ _ (M1 m j) (ff * M1 r j) S (S + S + S) _ (pI.out.ext ((Ext.refl _).drew.trans hE)) hI1 hsp.out (hsr.out.mul hsq.out) (by omega)) ?_
               rintro e w1 ⟨b1, b2, A1, A2, n1, d1, n2, d2, rfl, hI1, hE1⟩
               exact ⟨_, rfl, hE1, b1, A1, n1, d1, b2, A2, n2, d2, rfl, hI1⟩
              case s18 =>
               intro w' ev hE hk ha hc hf
               have e96 : ev (.tmp 96) = .slice (some ⟨g, 0, none⟩) R.length R.length := hk.1 _ rfl
               have e97 : ev (.tmp 97) = .int .i64 (m : Int) := hk.2.1 _ rfl
               exact opStep_val (by simp [execOp, e96, e97, i1, go_sem]) rfl
              case s19 =>
               intro w' ev hE hk ha hc hf
               have e114 : ev (.tmp 114) = .pointer (some ⟨g, m * 32, none⟩) := hk.1 _ rfl
               have e98 : ev (.tmp 98) = .int .i64 (j : Int) := hk.2.1 _ rfl
               exact opStep_val (by simp [execOp, e114, e98, i3, go_sem]) rfl
             case fin =>
              intro gf w' hE hF
              obtain ⟨b5, A5, n5, c5, b6, A6, n6, c6, e17, hI5⟩ := hF 17 _ rfl
              have e19 := hF 19 _ rfl
              simp only [List.length_cons, List.length_nil, Nat.reduceAdd, List.drop_succ_cons, List.drop_zero, List.take_succ_cons, List.take_zero, putG, Act.put, List.setIfInBounds_toArray, List.set_cons_succ, List.set_cons_zero, e17, e19]
              have hM5 := hK.out.1.ext ((Ext.refl _).drew.trans hE)
              obtain ⟨v0, s0⟩ := hM5.some (o := m * 32 + j * 4) (by omega)
              obtain ⟨v1, s1⟩ := hM5.some (o := m * 32 + j * 4 + 1) (by omega)
              obtain ⟨v2, s2⟩ := hM5.some (o := m * 32 + j * 4 + 2) (by omega)
              obtain ⟨v3, s3⟩ := hM5.some (o := m * 32 + j * 4 + 3) (by omega)
              have z := hM5.frozen
              have hM6 : Hid (MatAt (rat4 w' g (m * 32 + j * 4) (.bool b5) (.slice A5 n5 c5) (.bool b6) (.slice A6 n6 c6)) g R.length (elimMid M1 i r m (j + 1)) ∧ Ext w (rat4 w' g (m * 32 + j * 4) (.bool b5) (.slice A5 n5 c5) (.bool b6) (.slice A6 n6 c6)) ∧ Blk (rat4 w' g (m * 32 + j * 4) (.bool b5) (.slice A5 n5 c5) (.bool b6) (.slice A6 n6 c6)) B 3 #[.int .i64 i] ∧ RatAt (rat4 w' g (m * 32 + j * 4) (.bool b5) (.slice A5 n5 c5) (.bool b6) (.slice A6 n6 c6)) B2 0 ff) := by
               have hE0 := (Ext.refl wr).drew.trans hE
               refine ⟨hM5.put hmlt hj8 hI5 ?_ fun a b ha hb _ hne => ⟨trivial, ?_⟩, (hK.out.2.1.trans hE0).rat4 (by rw [hg.out]; omega) _ _ _ _ _, (hK.out.2.2.1.ext hE0).rat4 hBg _ _ _ _ _, (hK.out.2.2.2.ext hE0).rat4 hM5.ty hgB _ _ _ _ _⟩
               ·simp only [elimMid]; rw [if_pos ⟨trivial, hij, by omega⟩, hff.out]
               ·simp only [elimMid]
                by_cases h1 : a = m ∧ i ≤ b ∧ b < j
                ·rw [if_pos h1, if_pos ⟨h1.1, h1.2.1, by omega⟩]
                ·rw [if_neg h1, if_neg (by omega)]
              replace hM5 := hide hM5
              replace hI5 := hide hI5
              replace hE := hide hE
              clear hF e17 e19 i1 i2 i3
              go_wp2
              exact ⟨⟨j + 1, by omega, hj8, by simp, hM6.out⟩, by simp [intOf]; omega⟩
            ·obtain rfl : j = 8 := by omega
             have hM7 : Hid (MatAt wr g R.length (elimQ M1 i r (m + 1)) ∧ Ext w wr ∧ Blk wr B 3 #[.int .i64 i]) := ⟨hK.out.1.congr fun a b ha hb _ => ⟨trivial, by
              simp only [elimMid, elimQ]
              by_cases h1 : a = m
              ·subst h1
               by_cases h2 : i ≤ b
               ·rw [if_pos ⟨by omega, by omega⟩, if_pos ⟨rfl, h2, hb⟩]
               ·rw [if_pos ⟨by omega, by omega⟩, if_neg (by omega), if_neg (by omega), hz1.out a (by omega) ha b (by omega), hz1.out r (Nat.le_refl _) hrn' b (by omega)]; grind
              ·by_cases h3 : r < a ∧ a < m
               ·rw [if_pos ⟨h3.1, by omega⟩, if_neg (fun h => h1 h.1), if_pos h3]
               ·rw [if_neg (by omega), if_neg (fun h => h1 h.1), if_neg h3]⟩, hK.out.2.1, hK.out.2.2.1⟩
             go_wp2
             exact ⟨⟨m + 1, by omega, hmlt, by simp, hM7.out⟩, by simp [intOf]; omega⟩
         ·obtain rfl : m = R.length := by omega
          have hsz : Hid (SzM (elimQ M1 i r R.length) R.length (4 * S + 1)) := fun a b ha hb => by
           simp only [elimQ]
           split
           ·exact ((hs1.out a b ha hb).sub (((hs1.out a i ha hi8).div (hs1.out r i hrn' hi8) hp1.out).mul (hs1.out r b hrn' hb))).mono (by omega)
           ·exact (hs1.out a b ha hb).mono (by omega)
          go_wp2
          exact ⟨⟨i + 1, r + 1, by omega, by omega, by omega, by simp, by simp, _, hnx.out, by rw [hS1.out]; exact hsz.out, hI.out.1, hI.out.2.1⟩, by simp [intOf]; omega⟩
     ·obtain rfl : r = R.length := by omega
      go_wp2_with fail
      refine (IndexFunc_none _ _ _ _).mono ?_
      rintro e w3 ⟨rfl, rfl⟩
      go_wp2
      exact ⟨⟨i + 1, R.length, by omega, by omega, by omega, by simp, rfl, M, hJ.out.1.skip hi8 (fun k h1 h2 => by omega), hJ.out.2.1.mono (by simp only [szOf]; omega), hW.out.1, hW.out.2.1⟩, by simp [intOf]; omega⟩
    ·obtain rfl : i = 8 := by omega
     have hf := hide hJ.out.1.fin
     go_wp2
     go_ret
     refine ⟨r, rfl, ?_, hJ.out.2.2.2⟩
     rw [← hf.out]
     omega

set_option maxRecDepth 100000 in
theorem Full_bad_in (v : Value) (R : List (Nat → Int)) (w : World) (h : RowsIn .i64 w v R) (hv : ¬ OValid R) :
  Calls Tryz.prog 11 #[v] w (RetErr 50 w) := by
 replace h := hide h
 go_enter Tryz.func11, Tryz.ntmps11
 go_wp2_with fail
 refine (oValid_in v R _ h.out).mono ?_
 rw [ovB_false hv]
 rintro e w1 ⟨rfl, hE1⟩
 replace hE1 := hide hE1
 go_wp2
 go_ret2
 exact ⟨rfl, hE1.out⟩

set_option maxRecDepth 100000 in
theorem Full_tot_in (v : Value) (R : List (Nat → Int)) (w : World) (h : RowsIn .i64 w v R) (hv : OValid R) (ht : Total R) :
  Calls Tryz.prog 11 #[v] w (RetFull R w) := by
 replace h := hide h
 have hl := hv.1
 replace ht := hide ht
 go_enter Tryz.func11, Tryz.ntmps11
 go_wp2_with fail
 refine (oValid_in v R _ h.out).mono ?_
 rw [ovB_true hv]
 rintro e w1 ⟨rfl, hE1⟩
 have h1 := hide (h.out.ext hE1)
 replace hE1 := hide hE1
 go_wp2_with fail
 refine (CloneO_in v R _ h1.out (by omega)).mono ?_
 rintro e w2 ⟨A, c, rfl, hO, hE2⟩
 have h2 := hide (h1.out.ext hE2)
 replace hO := hide hO
 replace hE2 := hide hE2
 go_wp2_with fail
 refine (rank_in v R _ h2.out hv.in8 (by omega)).mono ?_
 rintro e w3 ⟨z, rfl, hz, hE3⟩
 obtain rfl : z = 8 := hz.2 ht.out
 have hO3 : Hid (OwnRows 35 w.heap.size w3 (.slice A R.length c) R) := (hO.out.base_mono hE1.out.size).ext hE3
 have hE4 := hide ((hE1.out.trans hE2.out).trans hE3)
 clear hz hE3
 go_wp2
 go_ret2
 exact ⟨A, c, rfl, hO3.out, hE4.out⟩

set_option maxRecDepth 100000 in
set_option maxHeartbeats 800000 in
theorem Full_app_in (v : Value) (R : List (Nat → Int)) (w : World) (h : RowsIn .i64 w v R) (hv : OValid R) (ht : ¬ Total R) (h16 : R.length ≤ 16) :
  Calls Tryz.prog 11 #[v] w (RetFull (R ++ unitRows 8) w) := by
 replace h := hide h
 replace ht := hide ht
 obtain ⟨A0, c0, rfl, hc0, hm0, _⟩ := h.out.open_
 clear hc0 hm0
 go_enter Tryz.func11, Tryz.ntmps11
 go_wp2_with fail
 refine (oValid_in _ R _ h.out).mono ?_
 rw [ovB_true hv]
 rintro e w1 ⟨rfl, hE1⟩
 have h1 := hide (h.out.ext hE1)
 replace hE1 := hide hE1
 go_wp2_with fail
 refine (CloneO_in _ R _ h1.out (by omega)).mono ?_
 rintro e w2 ⟨A, c, rfl, hO, hE2⟩
 have h2 := hide (h1.out.ext hE2)
 replace hO := hide hO
 replace hE2 := hide hE2
 go_wp2_with fail
 refine (rank_in _ R _ h2.out hv.in8 (by omega)).mono ?_
 rintro e w3 ⟨z, rfl, hz, hE3⟩
 have hz8 : ¬ z = 8 := fun h => ht.out (hz.1 h)
 have hzb : (z == 8) = false := by simpa using hz8
 have hO3 : Hid (OwnRows 35 w.heap.size w3 (.slice A R.length c) (R ++ unitRows 0)) := by
  have := (hO.out.base_mono hE1.out.size).ext hE3
  rw [show R ++ unitRows 0 = R by simp [unitRows]]; exact this
 have hE4 := hide ((hE1.out.trans hE2.out).trans hE3)
 clear hz hE3 hz8 h h1 h2 hO hE1 hE2
 go_wp2
 go_loopw [4, 19] (fun v i wr => ∃ (k : Nat) (A : Option Addr) (c : Nat), k ≤ 8 ∧ i = .int .i64 k ∧ v = .slice A (R.length + k) c ∧ Hid (OwnRows 35 w.heap.size wr (.slice A (R.length + k) c) (R ++ unitRows k) ∧ Ext w wr)) (fun _ i _ => 8 - (intOf i).toNat)
 case atStart => exact ⟨0, A, c, by omega, rfl, rfl, hO3.out, hE4.out⟩
 case round =>
  clear hO3 hE4
  obtain ⟨k, A, c, hk, rfl, rfl, hI⟩ := hrel
  by_cases hlt : k < 8
  ·obtain ⟨hp1, hp2⟩ := pow_mod hlt
   replace hp1 := hide hp1
   go_wp2_with fail
   refine (ones_x _ (2 ^ k) _ hp1.out hp2).mono ?_
   rintro e w1 ⟨rfl, hE1⟩
   obtain ⟨A', c', w', hrun, hO, hg⟩ := append_order (base := w.heap.size) (w := w1.alloc (.cells #[.int .i64 (onesOf (2 ^ k) 0), .int .i64 (onesOf (2 ^ k) 1), .int .i64 (onesOf (2 ^ k) 2), .int .i64 (onesOf (2 ^ k) 3), .int .i64 (onesOf (2 ^ k) 4), .int .i64 (onesOf (2 ^ k) 5), .int .i64 (onesOf (2 ^ k) 6), .int .i64 (onesOf (2 ^ k) 7)] 35)) (v := .slice A (R.length + k) c) (R := R ++ unitRows k) (S := [onesOf (2 ^ k)]) (x := .slice (some ⟨w1.heap.size, 0, none⟩) 1 1)
    ((hI.out.1.ext hE1).ext ((Ext.refl _).alloc _)) (OwnRows.blk (R := [onesOf (2 ^ k)]) (c := 1) (base := 0) (g := w1.heap.size) (Nat.zero_le _) (Blk.new _ _ _) rfl (by simp)).rows (by simp) (by simp [unitRows_length]; omega) (by have := hI.out.2.size; have := hE1.size; simp; omega)
   have hE3 : Hid (Ext w w') := ((hI.out.2.trans hE1).alloc _).grown' hg hI.out.1.base_le
   rw [List.length_append, unitRows_length] at hrun hO
   replace hrun := hide hrun
   have hO2 : Hid (OwnRows 35 w.heap.size w' (.slice A' (R.length + (k + 1)) c') (R ++ unitRows (k + 1))) := by
    have := hO; rw [List.append_assoc, unitRows_snoc] at this; exact this
   replace hE1 := hide hE1
   clear hg hO
   go_wp2_with (at_builtin; go_loud (refine wpList_append_run rfl _ _ _ rfl _ _ rfl rfl hrun.out ?_))
   exact ⟨⟨k + 1, A', c', hlt, by simp, rfl, hO2.out, hE3.out⟩, by simp [intOf]; omega⟩
  ·obtain rfl : k = 8 := by omega
   have hlen : Hid ((R ++ unitRows 8).length = R.length + 8) := hide (by simp [unitRows_length])
   go_wp2
   go_ret2
   refine ⟨A, c, ?_, ?_, hI.out.2⟩
   ·rw [hlen.out]; rfl
   ·rw [hlen.out]; exact hI.out.1

set_option maxRecDepth 100000 in
theorem Full_big_in (v : Value) (R : List (Nat → Int)) (w : World) (h : RowsIn .i64 w v R) (hv : OValid R) (ht : ¬ Total R) (h16 : 16 < R.length) :
  Calls Tryz.prog 11 #[v] w (RetErr 2 w) := by
 replace h := hide h
 have hl := hv.1
 replace ht := hide ht
 obtain ⟨A0, c0, rfl, hc0, hm0, _⟩ := h.out.open_
 clear hc0 hm0
 go_enter Tryz.func11, Tryz.ntmps11
 go_wp2_with fail
 refine (oValid_in _ R _ h.out).mono ?_
 rw [ovB_true hv]
 rintro e w1 ⟨rfl, hE1⟩
 have h1 := hide (h.out.ext hE1)
 replace hE1 := hide hE1
 go_wp2_with fail
 refine (CloneO_in _ R _ h1.out (by omega)).mono ?_
 rintro e w2 ⟨A, c, rfl, hO, hE2⟩
 have h2 := hide (h1.out.ext hE2)
 replace hO := hide hO
 replace hE2 := hide hE2
 go_wp2_with fail
 refine (rank_in _ R _ h2.out hv.in8 (by omega)).mono ?_
 rintro e w3 ⟨z, rfl, hz, hE3⟩
 have hz8 : ¬ z = 8 := fun h => ht.out (hz.1 h)
 have hzb : (z == 8) = false := by simpa using hz8
 have hE4 := hide ((hE1.out.trans hE2.out).trans hE3)
 clear hz hE3 hz8
 go_wp2
 go_ret2
 exact ⟨rfl, hE4.out⟩

end Go.Proofs.YteefhmdameeoaaaGreat
