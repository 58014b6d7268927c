/-
  The reference's Full.
-/
import Derived.Test.YteefhmdameeoaaaGreatRefo
set_option linter.unusedSimpArgs false
set_option linter.unusedVariables false
namespace Go.Proofs.YteefhmdameeoaaaGreat
open Go.RowKit

theorem append_order_in {base : Nat} {w : World} {v x : Value} {R S : List (Nat → Int)} (h : OwnRows 35 base w v R) (hx : RowsIn .i64 w x S) (h0 : 0 < S.length) (hn : R.length + S.length ≤ 1000000000000) (hb : base ≤ w.heap.size) : AppendRows 35 30 base w v x R S := by
  obtain ⟨i, hi, hz0, hz1, hz2⟩ := info_parts (show (Tryz.prog.info? 35).map (fun i => (i.zero, i.size, i.bytes)) = some (some (.agg (c8 fun _ => 0)), 8, 64) by kernel_rfl)
  obtain ⟨A, c, rfl, hc, hm, hcells⟩ := hx
  obtain ⟨b, o, rfl, hbl, hcell⟩ := hcells h0
  have hnews : ∀ (q : Nat) (u : Value), (rl S)[q]? = some u → w.cell? ((⟨b, o, none⟩ : Addr).add q) = some u := by
    intro q u hu
    have hq : q < S.length * 8 := by rw [← rl_length]; exact (List.getElem?_eq_some_iff.1 hu).1
    have e : q = q / 8 * 8 + q % 8 := by omega
    have hu' := rl_get S (q / 8) (q % 8) (by omega) (by omega)
    rw [← e, hu] at hu'
    have e2 : o + q = o + q / 8 * 8 + q % 8 := by omega
    rw [hu', add_mk, e2]
    exact hcell (q / 8) (q % 8) (by omega) (by omega)
  obtain ⟨v', w', hrun, hown, hg, _⟩ := run_append_own (P := Tryz.prog) w base 30 30 35 i _ 8 64 Tryz.underlying30 hi hz0 hz1 hz2 rfl (by omega)
    v R.length (rl R) h ⟨b, o, none⟩ S.length c (rl S) (rl_length S) hnews (fun u hu => rl_int hu) (by simp only [maxLen]; omega) (by omega) hb
  have hO : OwnRows 35 base w' v' (R ++ S) := by
    unfold OwnRows
    rw [List.length_append, rl_append]
    exact hown
  obtain ⟨A, c', rfl⟩ := hO.form
  rw [List.length_append] at hrun hO
  exact ⟨A, c', w', hrun, hO, hg⟩
/-- append(api.Order{}, o...) -/
theorem append_new {base g : Nat} {w : World} {x : Value} {R : List (Nat → Int)} (hx : RowsIn .i64 w x R) (hB : Blk w g 35 #[]) (hg : base ≤ g) (hl : R.length ≤ 24) :
    ∃ A c w', (Builtin.append_ #[30, 30] 30 #[.slice (some ⟨g, 0, none⟩) 0 0, x]).run Tryz.prog w = .ok (.slice A R.length c) w' ∧ OwnRows 35 base w' (.slice A R.length c) R ∧ Ext w w' := by
  have hO : OwnRows 35 base w (.slice (some ⟨g, 0, none⟩) 0 0) [] := OwnRows.blk (R := []) hg hB rfl (by simp)
  have hgl := hB.lt
  obtain ⟨i, hi, hz0, hz1, hz2⟩ := info_parts (show (Tryz.prog.info? 35).map (fun i => (i.zero, i.size, i.bytes)) = some (some (.agg (c8 fun _ => 0)), 8, 64) by kernel_rfl)
  by_cases h0 : 0 < R.length
  · obtain ⟨X, cx, rfl, hc, hm, hcells⟩ := id hx
    obtain ⟨b, o, rfl, hbl, hcell⟩ := hcells h0
    have hnews : ∀ (q : Nat) (u : Value), (rl R)[q]? = some u → w.cell? ((⟨b, o, none⟩ : Addr).add q) = some u := by
      intro q u hu
      have hq : q < R.length * 8 := by rw [← rl_length]; exact (List.getElem?_eq_some_iff.1 hu).1
      have e : q = q / 8 * 8 + q % 8 := by omega
      have hu' := rl_get R (q / 8) (q % 8) (by omega) (by omega)
      rw [← e, hu] at hu'
      have e2 : o + q = o + q / 8 * 8 + q % 8 := by omega
      rw [hu', add_mk, e2]
      exact hcell (q / 8) (q % 8) (by omega) (by omega)
    obtain ⟨A, c, w', hrun, hO', _⟩ := append_order_in hO hx h0 (by simp; omega) (by omega)
    have hgr := run_append_grow (P := Tryz.prog) w 30 30 35 i _ Tryz.underlying30 hi hz0 ⟨g, 0, none⟩ 0 0 [] (by simp) (by simp) ⟨b, o, none⟩ R.length cx (rl R) (by rw [rl_length, hz1]) hnews (by omega) (by omega) (by rw [hz2]; simp only [Nat.zero_add]; rw [nextslicecap_zero h0]; omega)
    simp only [List.length_nil, Nat.zero_add, List.nil_append] at hrun hO' hgr
    have hrun' := hrun
    rw [hrun] at hgr
    injection hgr with e1 e2
    exact ⟨A, c, w', hrun', hO', by rw [e2]; exact (Ext.refl _).drew.alloc _⟩
  · have hR : R = [] := List.eq_nil_of_length_eq_zero (by omega)
    subst hR
    obtain ⟨X, cx, rfl, _⟩ := hx
    refine ⟨_, _, w, ?_, hO, Ext.refl _⟩
    cases X with
    | none => simp [Builtin.append_, run_underlying Tryz.underlying30, sizeOf, typeInfo, hi, Builtin.lenOf, Builtin.firstCells, storeCells]
    | some b => exact run_append_nothing w _ _ _ _ i Tryz.underlying30 hi _ _ _ (Nat.le_refl _) _ (Src.ofSlice w Tryz.underlying30 _ _ _ [] (by simp) (by simp) (by simp))

set_option maxRecDepth 100000 in
theorem RFull_bad (v : Value) (R : List (Nat → Int)) (w : World) (h : RowsIn .i64 w v R) (hv : ¬ OValid R) :
    Calls Tryz.prog 12 #[v] w (RetErr 50 w) := by
  replace h := hide h
  go_enter Tryz.func12, Tryz.ntmps12
  go_wp2_with fail
  refine (RValid_any v R _ h.out).mono ?_
  rw [ovB_false hv]
  rintro e w1 ⟨rfl, hE1⟩
  replace hE1 := hide hE1
  go_wp2
  go_ret2
  exact ⟨rfl, hE1.out⟩

set_option maxRecDepth 100000 in
theorem RFull_tot (v : Value) (R : List (Nat → Int)) (w : World) (h : RowsIn .i64 w v R) (hv : OValid R) (ht : Total R) :
    Calls Tryz.prog 12 #[v] w (RetFull R w) := by
  replace h := hide h
  obtain ⟨A0, c0, rfl, hc0, hm0, _⟩ := id h.out
  clear hc0 hm0
  have hl := hv.1
  replace ht := hide ht
  go_enter Tryz.func12, Tryz.ntmps12
  go_wp2_with fail
  refine (RValid_any _ R _ h.out).mono ?_
  rw [ovB_true hv]
  rintro e w1 ⟨rfl, hE1⟩
  have h1 := hide ((h.out.ext hE1).ext ((Ext.refl w1).alloc (.cells #[] 35)))
  obtain ⟨A, c, w2, hrun, hO, hE2⟩ := append_new (base := w.heap.size) (R := R) h1.out (Blk.new _ _ _) hE1.size hl
  have h2 := hide (h1.out.ext hE2)
  have hE4 : Hid (Ext w w2) := (hE1.alloc _).trans hE2
  replace hE1 := hide hE1
  replace hE2 := hide hE2
  replace hrun := hide hrun
  replace hO := hide hO
  clear h h1
  go_wp2_with (at_builtin; go_loud (refine wpList_append_run rfl _ _ _ rfl _ _ rfl rfl hrun.out ?_))
  refine (Rrank_any _ R _ h2.out hv.in8 (by omega)).mono ?_
  rintro e w3 ⟨z, rfl, hz, hE3⟩
  obtain rfl : z = 8 := hz.2 ht.out
  have hO3 : Hid (OwnRows 35 w.heap.size w3 (.slice A R.length c) R) := hO.out.ext hE3
  have hE5 := hide (hE4.out.trans hE3)
  clear hz hE3 hE4 hO
  go_wp2
  go_ret2
  exact ⟨A, c, rfl, hO3.out, hE5.out⟩

set_option maxRecDepth 100000 in
theorem RFull_big (v : Value) (R : List (Nat → Int)) (w : World) (h : RowsIn .i64 w v R) (hv : OValid R) (ht : ¬ Total R) (h16 : 16 < R.length) :
    Calls Tryz.prog 12 #[v] w (RetErr 2 w) := by
  replace h := hide h
  obtain ⟨A0, c0, rfl, hc0, hm0, _⟩ := id h.out
  clear hc0 hm0
  have hl := hv.1
  replace ht := hide ht
  go_enter Tryz.func12, Tryz.ntmps12
  go_wp2_with fail
  refine (RValid_any _ R _ h.out).mono ?_
  rw [ovB_true hv]
  rintro e w1 ⟨rfl, hE1⟩
  have h1 := hide ((h.out.ext hE1).ext ((Ext.refl w1).alloc (.cells #[] 35)))
  obtain ⟨A, c, w2, hrun, hO, hE2⟩ := append_new (base := w.heap.size) (R := R) h1.out (Blk.new _ _ _) hE1.size hl
  have h2 := hide (h1.out.ext hE2)
  have hE4 : Hid (Ext w w2) := (hE1.alloc _).trans hE2
  replace hE1 := hide hE1
  replace hE2 := hide hE2
  replace hrun := hide hrun
  replace hO := hide hO
  clear h h1
  go_wp2_with (at_builtin; go_loud (refine wpList_append_run rfl _ _ _ rfl _ _ rfl rfl hrun.out ?_))
  refine (Rrank_any _ R _ h2.out hv.in8 (by omega)).mono ?_
  rintro e w3 ⟨z, rfl, hz, hE3⟩
  have hz8 : ¬ z = 8 := fun h => ht.out (hz.1 h)
  have hzb : (z == 8) = false := by simpa using hz8
  have hE5 := hide (hE4.out.trans hE3)
  clear hz hE3 hz8 hE4 hO
  go_wp2
  go_ret2
  exact ⟨rfl, hE5.out⟩

theorem unit_ones (k : Nat) (hk : k < 8) : c8 (powOf k 1) = c8 (onesOf (2 ^ k)) := c8_congr fun i _ => by rw [bit_unit]; rfl
set_option maxRecDepth 100000 in
set_option maxHeartbeats 800000 in
theorem RFull_app (v : Value) (R : List (Nat → Int)) (w : World) (h : RowsIn .i64 w v R) (hv : OValid R) (ht : ¬ Total R) (h16 : R.length ≤ 16) :
    Calls Tryz.prog 12 #[v] w (RetFull (R ++ unitRows 8) w) := by
  replace h := hide h
  obtain ⟨A0, c0, rfl, hc0, hm0, _⟩ := id h.out
  clear hc0 hm0
  have hl := hv.1
  replace ht := hide ht
  go_enter Tryz.func12, Tryz.ntmps12
  go_wp2_with fail
  refine (RValid_any _ R _ h.out).mono ?_
  rw [ovB_true hv]
  rintro e w1 ⟨rfl, hE1⟩
  have h1 := hide ((h.out.ext hE1).ext ((Ext.refl w1).alloc (.cells #[] 35)))
  obtain ⟨A, c, w2, hrun, hO, hE2⟩ := append_new (base := w.heap.size) (R := R) h1.out (Blk.new _ _ _) hE1.size hl
  have h2 := hide (h1.out.ext hE2)
  have hE4 : Hid (Ext w w2) := (hE1.alloc _).trans hE2
  replace hE1 := hide hE1
  replace hE2 := hide hE2
  replace hrun := hide hrun
  replace hO := hide hO
  clear h h1
  go_wp2_with (at_builtin; go_loud (refine wpList_append_run rfl _ _ _ rfl _ _ rfl rfl hrun.out ?_))
  refine (Rrank_any _ R _ h2.out hv.in8 (by omega)).mono ?_
  rintro e w3 ⟨z, rfl, hz, hE3⟩
  have hz8 : ¬ z = 8 := fun h => ht.out (hz.1 h)
  have hzb : (z == 8) = false := by simpa using hz8
  have hE5 := hide (hE4.out.trans hE3)
  have hO3 : Hid (OwnRows 35 w.heap.size w3 (.slice A R.length c) (R ++ unitRows 0)) := by
    rw [show R ++ unitRows 0 = R by simp [unitRows]]; exact hO.out.ext hE3
  clear hz hE3 hz8 hE4 hO
  go_wp2
  go_loopw [4, 5] (fun v i wr => ∃ (k : Nat) (A : Option Addr) (c : Nat), k ≤ 8 ∧ i = .int .i64 k ∧ v = .slice A (R.length + k) c ∧ Hid (OwnRows 35 w.heap.size wr (.slice A (R.length + k) c) (R ++ unitRows k) ∧ Ext w wr)) (fun _ i _ => 8 - (intOf i).toNat)
  case atStart => exact ⟨0, A, c, by omega, rfl, rfl, hO3.out, hE5.out⟩
  case round =>
    clear hO3 hE5
    obtain ⟨k, A, c, hk, rfl, rfl, hI⟩ := hrel
    by_cases hlt : k < 8
    · have hd8 : decide ((k : Int) < 8) = true := by simp; omega
      go_wp2_with fail
      refine (Runit_any k 1 _ hlt).mono ?_
      rintro e w1 ⟨rfl, hE1⟩
      have hu : (#[.int .i64 (powOf k 1 0), .int .i64 (powOf k 1 1), .int .i64 (powOf k 1 2), .int .i64 (powOf k 1 3), .int .i64 (powOf k 1 4), .int .i64 (powOf k 1 5), .int .i64 (powOf k 1 6), .int .i64 (powOf k 1 7)] : Array Value) = #[.int .i64 (onesOf (2 ^ k) 0), .int .i64 (onesOf (2 ^ k) 1), .int .i64 (onesOf (2 ^ k) 2), .int .i64 (onesOf (2 ^ k) 3), .int .i64 (onesOf (2 ^ k) 4), .int .i64 (onesOf (2 ^ k) 5), .int .i64 (onesOf (2 ^ k) 6), .int .i64 (onesOf (2 ^ k) 7)] := unit_ones k hlt
      rw [hu]
      clear hu
      obtain ⟨A', c', w', hrun, hO, hg⟩ := append_order (base := w.heap.size) (w := w1.alloc (.cells #[.int .i64 (onesOf (2 ^ k) 0), .int .i64 (onesOf (2 ^ k) 1), .int .i64 (onesOf (2 ^ k) 2), .int .i64 (onesOf (2 ^ k) 3), .int .i64 (onesOf (2 ^ k) 4), .int .i64 (onesOf (2 ^ k) 5), .int .i64 (onesOf (2 ^ k) 6), .int .i64 (onesOf (2 ^ k) 7)] 35)) (v := .slice A (R.length + k) c) (R := R ++ unitRows k) (S := [onesOf (2 ^ k)]) (x := .slice (some ⟨w1.heap.size, 0, none⟩) 1 1)
        ((hI.out.1.ext hE1).ext ((Ext.refl _).alloc _)) (OwnRows.blk (R := [onesOf (2 ^ k)]) (c := 1) (base := 0) (g := w1.heap.size) (Nat.zero_le _) (Blk.new _ _ _) rfl (by simp)).rows (by simp) (by simp [unitRows_length]; omega) (by have := hI.out.2.size; have := hE1.size; simp; omega)
      have hE3 : Hid (Ext w w') := ((hI.out.2.trans hE1).alloc _).grown' hg hI.out.1.base_le
      rw [List.length_append, unitRows_length] at hrun hO
      replace hrun := hide hrun
      have hO2 : Hid (OwnRows 35 w.heap.size w' (.slice A' (R.length + (k + 1)) c') (R ++ unitRows (k + 1))) := by
        have := hO; rw [List.append_assoc, unitRows_snoc] at this; exact this
      replace hE1 := hide hE1
      clear hg hO
      go_wp2_with (at_builtin; go_loud (refine wpList_append_run rfl _ _ _ rfl _ _ rfl rfl hrun.out ?_))
      exact ⟨⟨k + 1, A', c', hlt, by simp, rfl, hO2.out, hE3.out⟩, by simp [intOf]; omega⟩
    · obtain rfl : k = 8 := by omega
      have hd8 : decide (((8 : Nat) : Int) < 8) = false := by simp
      have hlen : Hid ((R ++ unitRows 8).length = R.length + 8) := hide (by simp [unitRows_length])
      go_wp2
      go_ret2
      refine ⟨A, c, ?_, ?_, hI.out.2⟩
      · rw [hlen.out]; rfl
      · rw [hlen.out]; exact hI.out.1

end Go.Proofs.YteefhmdameeoaaaGreat
