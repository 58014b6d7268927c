/-
  The reference's Permute.
-/
import Derived.Test.YteefhmdameeoaaaGreatRefp
set_option linter.unusedSimpArgs false
set_option linter.unusedVariables false
namespace Go.Proofs.YteefhmdameeoaaaGreat
open Go.RowKit

theorem RFull_ok (v : Value) (R Fr : List (Nat → Int)) (w : World) (h : RowsIn .i64 w v R) (hv : OValid R) (hf : FullOf R Fr) : Calls Tryz.prog 12 #[v] w (RetFull Fr w) := by
  rcases hf with ⟨h1, rfl⟩ | ⟨h1, h2, rfl⟩
  · exact RFull_tot v _ w h hv h1
  · exact RFull_app v R w h hv h1 h2

set_option maxRecDepth 100000 in
theorem RPermute_bad (v : Value) (R : List (Nat → Int)) (a : Nat → Int) (w : World) (h : RowsIn .i64 w v R) (hv : ¬ OValid R) :
    Calls Tryz.prog 14 #[v, .agg #[.int .i64 (a 0), .int .i64 (a 1), .int .i64 (a 2), .int .i64 (a 3), .int .i64 (a 4), .int .i64 (a 5), .int .i64 (a 6), .int .i64 (a 7)]] w (RetErr 50 w) := by
  have hE0 : Hid (Ext w (w.alloc (.cells #[.int .i64 (a 0), .int .i64 (a 1), .int .i64 (a 2), .int .i64 (a 3), .int .i64 (a 4), .int .i64 (a 5), .int .i64 (a 6), .int .i64 (a 7)] 35))) := (Ext.refl w).alloc _
  have h1 := hide (h.ext hE0.out)
  go_enter Tryz.func14, Tryz.ntmps14
  go_wp2_with fail
  refine (RValid_any v R _ h1.out).mono ?_
  rw [ovB_false hv]
  rintro e w1 ⟨rfl, hE1⟩
  replace hE1 := hide hE1
  go_wp2
  go_ret2
  exact ⟨rfl, hE0.out.trans hE1.out⟩

set_option maxRecDepth 100000 in
theorem RPermute_no (v : Value) (R : List (Nat → Int)) (a : Nat → Int) (w : World) (h : RowsIn .i64 w v R) (hv : OValid R) (hp : ¬ GoodP a) :
    Calls Tryz.prog 14 #[v, .agg #[.int .i64 (a 0), .int .i64 (a 1), .int .i64 (a 2), .int .i64 (a 3), .int .i64 (a 4), .int .i64 (a 5), .int .i64 (a 6), .int .i64 (a 7)]] w (RetErr 1 w) := by
  have hE0 : Hid (Ext w (w.alloc (.cells #[.int .i64 (a 0), .int .i64 (a 1), .int .i64 (a 2), .int .i64 (a 3), .int .i64 (a 4), .int .i64 (a 5), .int .i64 (a 6), .int .i64 (a 7)] 35))) := (Ext.refl w).alloc _
  have hB0 : Hid (Blk (w.alloc (.cells #[.int .i64 (a 0), .int .i64 (a 1), .int .i64 (a 2), .int .i64 (a 3), .int .i64 (a 4), .int .i64 (a 5), .int .i64 (a 6), .int .i64 (a 7)] 35)) w.heap.size 35 (c8 a)) := Blk.new _ _ _
  have h1 := hide (h.ext hE0.out)
  go_enter Tryz.func14, Tryz.ntmps14
  go_wp2_with fail
  generalize (w.alloc (.cells #[.int .i64 (a 0), .int .i64 (a 1), .int .i64 (a 2), .int .i64 (a 3), .int .i64 (a 4), .int .i64 (a 5), .int .i64 (a 6), .int .i64 (a 7)] 35)) = wa at *
  refine (RValid_any v R _ h1.out).mono ?_
  rw [ovB_true hv]
  rintro e w1 ⟨rfl, hE1⟩
  have hB1 := hide (hB0.out.ext hE1)
  have hE2 := hide (hE0.out.trans hE1)
  clear hE0 hB0 hE1 h1
  have q0 : (w1).cell? ⟨w.heap.size, 0, none⟩ = some (.int .i64 (a 0)) := (hB1.out).cell 0
  have q1 : (w1).cell? ⟨w.heap.size, 1, none⟩ = some (.int .i64 (a 1)) := (hB1.out).cell 1
  have q2 : (w1).cell? ⟨w.heap.size, 2, none⟩ = some (.int .i64 (a 2)) := (hB1.out).cell 2
  have q3 : (w1).cell? ⟨w.heap.size, 3, none⟩ = some (.int .i64 (a 3)) := (hB1.out).cell 3
  have q4 : (w1).cell? ⟨w.heap.size, 4, none⟩ = some (.int .i64 (a 4)) := (hB1.out).cell 4
  have q5 : (w1).cell? ⟨w.heap.size, 5, none⟩ = some (.int .i64 (a 5)) := (hB1.out).cell 5
  have q6 : (w1).cell? ⟨w.heap.size, 6, none⟩ = some (.int .i64 (a 6)) := (hB1.out).cell 6
  have q7 : (w1).cell? ⟨w.heap.size, 7, none⟩ = some (.int .i64 (a 7)) := (hB1.out).cell 7
  go_wp2_with fail
  refine (RPermutation_any a _).mono ?_
  rw [permB_false hp]
  rintro e w2 ⟨rfl, hE3⟩
  have hE4 := hide (hE2.out.trans hE3)
  clear hE3 hE2 hB1 q0 q1 q2 q3 q4 q5 q6 q7
  go_wp2
  go_ret2
  exact ⟨rfl, hE4.out⟩

set_option maxRecDepth 100000 in
theorem RPermute_big (v : Value) (R : List (Nat → Int)) (a : Nat → Int) (w : World) (h : RowsIn .i64 w v R) (hv : OValid R) (hp : GoodP a) (ht : ¬ Total R) (h16 : 16 < R.length) :
    Calls Tryz.prog 14 #[v, .agg #[.int .i64 (a 0), .int .i64 (a 1), .int .i64 (a 2), .int .i64 (a 3), .int .i64 (a 4), .int .i64 (a 5), .int .i64 (a 6), .int .i64 (a 7)]] w (RetErr 2 w) := by
  have hE0 : Hid (Ext w (w.alloc (.cells #[.int .i64 (a 0), .int .i64 (a 1), .int .i64 (a 2), .int .i64 (a 3), .int .i64 (a 4), .int .i64 (a 5), .int .i64 (a 6), .int .i64 (a 7)] 35))) := (Ext.refl w).alloc _
  have hB0 : Hid (Blk (w.alloc (.cells #[.int .i64 (a 0), .int .i64 (a 1), .int .i64 (a 2), .int .i64 (a 3), .int .i64 (a 4), .int .i64 (a 5), .int .i64 (a 6), .int .i64 (a 7)] 35)) w.heap.size 35 (c8 a)) := Blk.new _ _ _
  have h1 := hide (h.ext hE0.out)
  go_enter Tryz.func14, Tryz.ntmps14
  go_wp2_with fail
  generalize (w.alloc (.cells #[.int .i64 (a 0), .int .i64 (a 1), .int .i64 (a 2), .int .i64 (a 3), .int .i64 (a 4), .int .i64 (a 5), .int .i64 (a 6), .int .i64 (a 7)] 35)) = wa at *
  refine (RValid_any v R _ h1.out).mono ?_
  rw [ovB_true hv]
  rintro e w1 ⟨rfl, hE1⟩
  have hB1 := hide (hB0.out.ext hE1)
  have hE2 := hide (hE0.out.trans hE1)
  have h2 := hide (h1.out.ext hE1)
  clear hE0 hB0 hE1 h1
  have q0 : (w1).cell? ⟨w.heap.size, 0, none⟩ = some (.int .i64 (a 0)) := (hB1.out).cell 0
  have q1 : (w1).cell? ⟨w.heap.size, 1, none⟩ = some (.int .i64 (a 1)) := (hB1.out).cell 1
  have q2 : (w1).cell? ⟨w.heap.size, 2, none⟩ = some (.int .i64 (a 2)) := (hB1.out).cell 2
  have q3 : (w1).cell? ⟨w.heap.size, 3, none⟩ = some (.int .i64 (a 3)) := (hB1.out).cell 3
  have q4 : (w1).cell? ⟨w.heap.size, 4, none⟩ = some (.int .i64 (a 4)) := (hB1.out).cell 4
  have q5 : (w1).cell? ⟨w.heap.size, 5, none⟩ = some (.int .i64 (a 5)) := (hB1.out).cell 5
  have q6 : (w1).cell? ⟨w.heap.size, 6, none⟩ = some (.int .i64 (a 6)) := (hB1.out).cell 6
  have q7 : (w1).cell? ⟨w.heap.size, 7, none⟩ = some (.int .i64 (a 7)) := (hB1.out).cell 7
  go_wp2_with fail
  refine (RPermutation_any a _).mono ?_
  rw [permB_true hp]
  rintro e w2 ⟨rfl, hE3⟩
  have hE4 := hide (hE2.out.trans hE3)
  have h3 := hide (h2.out.ext hE3)
  clear hE3 hE2 hB1 h2 q0 q1 q2 q3 q4 q5 q6 q7
  go_wp2_with fail
  refine (RFull_big v R _ h3.out hv ht h16).mono ?_
  rintro e w3 ⟨rfl, hE5⟩
  have hE6 := hide (hE4.out.trans hE5)
  clear hE5 hE4
  go_wp2
  go_ret2
  exact ⟨rfl, hE6.out⟩

set_option maxRecDepth 100000 in
set_option maxHeartbeats 1600000 in
theorem RPermute_ok (v : Value) (R Fr : List (Nat → Int)) (p : Nat → Nat) (w : World) (h : RowsIn .i64 w v R) (hv : OValid R) (hf : FullOf R Fr) (hp8 : ∀ i, i < 8 → p i < 8) (hg : GoodP (castP p)) :
    Calls Tryz.prog 14 #[v, .agg #[.int .i64 (castP p 0), .int .i64 (castP p 1), .int .i64 (castP p 2), .int .i64 (castP p 3), .int .i64 (castP p 4), .int .i64 (castP p 5), .int .i64 (castP p 6), .int .i64 (castP p 7)]] w (RetFull (Fr.map (permRow p)) w) := by
  have hE0 : Hid (Ext w (w.alloc (.cells #[.int .i64 (castP p 0), .int .i64 (castP p 1), .int .i64 (castP p 2), .int .i64 (castP p 3), .int .i64 (castP p 4), .int .i64 (castP p 5), .int .i64 (castP p 6), .int .i64 (castP p 7)] 35))) := (Ext.refl w).alloc _
  have hB0 : Hid (Blk (w.alloc (.cells #[.int .i64 (castP p 0), .int .i64 (castP p 1), .int .i64 (castP p 2), .int .i64 (castP p 3), .int .i64 (castP p 4), .int .i64 (castP p 5), .int .i64 (castP p 6), .int .i64 (castP p 7)] 35)) w.heap.size 35 (c8 (castP p))) := Blk.new _ _ _
  have h1 := hide (h.ext hE0.out)
  have hFl := hf.length hv
  replace hf := hide hf
  replace hp8 := hide hp8
  replace hg := hide hg
  go_enter Tryz.func14, Tryz.ntmps14
  go_wp2_with fail
  generalize (w.alloc (.cells #[.int .i64 (castP p 0), .int .i64 (castP p 1), .int .i64 (castP p 2), .int .i64 (castP p 3), .int .i64 (castP p 4), .int .i64 (castP p 5), .int .i64 (castP p 6), .int .i64 (castP p 7)] 35)) = wa at *
  refine (RValid_any v R _ h1.out).mono ?_
  rw [ovB_true hv]
  rintro e w1 ⟨rfl, hE1⟩
  have hB1 := hide (hB0.out.ext hE1)
  have hE2 := hide (hE0.out.trans hE1)
  have h2 := hide (h1.out.ext hE1)
  clear hE0 hB0 hE1 h1
  have q0 : (w1).cell? ⟨w.heap.size, 0, none⟩ = some (.int .i64 (castP p 0)) := (hB1.out).cell 0
  have q1 : (w1).cell? ⟨w.heap.size, 1, none⟩ = some (.int .i64 (castP p 1)) := (hB1.out).cell 1
  have q2 : (w1).cell? ⟨w.heap.size, 2, none⟩ = some (.int .i64 (castP p 2)) := (hB1.out).cell 2
  have q3 : (w1).cell? ⟨w.heap.size, 3, none⟩ = some (.int .i64 (castP p 3)) := (hB1.out).cell 3
  have q4 : (w1).cell? ⟨w.heap.size, 4, none⟩ = some (.int .i64 (castP p 4)) := (hB1.out).cell 4
  have q5 : (w1).cell? ⟨w.heap.size, 5, none⟩ = some (.int .i64 (castP p 5)) := (hB1.out).cell 5
  have q6 : (w1).cell? ⟨w.heap.size, 6, none⟩ = some (.int .i64 (castP p 6)) := (hB1.out).cell 6
  have q7 : (w1).cell? ⟨w.heap.size, 7, none⟩ = some (.int .i64 (castP p 7)) := (hB1.out).cell 7
  go_wp2_with fail
  refine (RPermutation_any (castP p) _).mono ?_
  rw [permB_true hg.out]
  rintro e w2 ⟨rfl, hE3⟩
  have hB2 := hide (hB1.out.ext hE3)
  have hE4 := hide (hE2.out.trans hE3)
  have h3 := hide (h2.out.ext hE3)
  clear hE3 hE2 hB1 h2 q0 q1 q2 q3 q4 q5 q6 q7
  go_wp2_with fail
  refine (RFull_ok v R Fr _ h3.out hv hf.out).mono ?_
  rintro e w3 ⟨A, c, rfl, hO, hE5⟩
  have hB3 := hide (hB2.out.ext hE5)
  have hE6 := hide (hE4.out.trans hE5)
  obtain ⟨A', c', e1, hc1, hm1, hcl⟩ := hO.rows.open_
  injection e1 with e1 e2 e3
  subst e1; subst e3
  clear e2 hc1
  replace hcl := hide hcl
  replace hO := hide hO
  have hB : Hid (OwnRows 35 w3.heap.size (w3.alloc (.cells #[] 35)) (.slice (some ⟨w3.heap.size, 0, none⟩) 0 0) ((Fr.map (permRow p)).take 0) ∧ Ext w3 (w3.alloc (.cells #[] 35))) := ⟨OwnRows.blk (R := []) (Nat.le_refl _) (Blk.new _ _ _) rfl (by simp), (Ext.refl w3).alloc _⟩
  clear hE5 hE4 hB2 h3
  go_wp2
  generalize (w3.alloc (.cells #[] 35)) = w4 at *
  have hml : (Fr.map (permRow p)).length = Fr.length := by simp
  have hsw : w.heap.size < w3.heap.size := hB3.out.lt
  go_loopw [8, 9] (fun s i wr => ∃ (k : Nat) (A' : Option Addr) (c' : Nat), k ≤ Fr.length ∧ i = .int .i64 k ∧ s = .slice A' k c' ∧ Hid (OwnRows 35 w3.heap.size wr (.slice A' k c') ((Fr.map (permRow p)).take k) ∧ Ext w3 wr)) (fun _ i _ => Fr.length - (intOf i).toNat)
  case atStart => exact ⟨0, _, _, by omega, rfl, rfl, hB.out⟩
  case round =>
    clear hB
    obtain ⟨k, A', c', hk, rfl, rfl, hI⟩ := hrel
    by_cases hlt : k < Fr.length
    · have hdl : decide (k < Fr.length) = true := by simpa using hlt
      obtain ⟨gf, o, rfl, hbl, hcell⟩ := hcl.out (by omega)
      replace hcell : Hid (∀ j, j < 8 → w3.cell? ⟨gf, o + k * 8 + j, none⟩ = some (.int .i64 (rowAt Fr k j))) := hide fun j hj => hcell k j hlt hj
      have hrow : Hid ((Fr.map (permRow p)).take k ++ [permRow p (rowAt Fr k)] = (Fr.map (permRow p)).take (k + 1)) := by
        rw [← rowAt_map hlt]
        exact take_append_row (by rw [hml]; exact hlt)
      generalize rowAt Fr k = r at *
      obtain ⟨wo, rfl⟩ : ∃ wo : World, wo = wr := ⟨_, rfl⟩
      go_wp2
      go_loopw [11] (fun i wr => ∃ j : Nat, j ≤ 8 ∧ i = .int .i64 j ∧ Hid (Blk wr wo.heap.size 35 (c8 (movedTo r p j)) ∧ Ext wo wr)) (fun i _ => 8 - (intOf i).toNat)
      case atStart => exact ⟨0, by omega, rfl, Blk.new _ _ _, (Ext.refl _).alloc _⟩
      case round =>
        obtain ⟨j, hj, rfl, hJ⟩ := hrel
        by_cases hj8 : j < 8
        · have hdj : decide ((j : Int) < 8) = true := by simp; omega
          have xr : wr.cell? ⟨gf, o + k * 8 + j, none⟩ = some (.int .i64 (r j)) := (hI.out.2.trans hJ.out.2).cellv (hcell.out j hj8)
          have xp : wr.cell? ⟨w.heap.size, j, none⟩ = some (.int .i64 ((p j : Nat) : Int)) := ((hB3.out.ext (hI.out.2.trans hJ.out.2)).at8 hj8)
          have hpk := hp8.out j hj8
          have xo := hJ.out.1.at8 hpk
          have xz := hJ.out.1.frozen (p j)
          have hset : Hid (Blk (wr.setCell ⟨wo.heap.size, p j, none⟩ (.int .i64 (r j))) wo.heap.size 35 (c8 (movedTo r p (j + 1)))) :=
            hJ.out.1.set8' hpk _ (by simp [movedTo]) fun i hi hne => by simp [movedTo, hne]
          generalize movedTo r p j (p j) = old at *
          generalize r j = x at *
          generalize p j = y at *
          go_wp2
          go_region
          go_wp2
          exact ⟨⟨j + 1, hj8, by simp, hset.out.drew, (hJ.out.2.set (p := ⟨wo.heap.size, y, none⟩) (Nat.le_refl _) _).drew⟩, by simp [intOf]; omega⟩
        · have hdj : decide ((j : Int) < 8) = false := by simp; omega
          obtain rfl : j = 8 := by omega
          have hb8 := hJ.out.1
          have x0 : (wr).cell? ⟨wo.heap.size, 0, none⟩ = some (.int .i64 (movedTo r p 8 0)) := (hb8).cell 0
          have x1 : (wr).cell? ⟨wo.heap.size, 1, none⟩ = some (.int .i64 (movedTo r p 8 1)) := (hb8).cell 1
          have x2 : (wr).cell? ⟨wo.heap.size, 2, none⟩ = some (.int .i64 (movedTo r p 8 2)) := (hb8).cell 2
          have x3 : (wr).cell? ⟨wo.heap.size, 3, none⟩ = some (.int .i64 (movedTo r p 8 3)) := (hb8).cell 3
          have x4 : (wr).cell? ⟨wo.heap.size, 4, none⟩ = some (.int .i64 (movedTo r p 8 4)) := (hb8).cell 4
          have x5 : (wr).cell? ⟨wo.heap.size, 5, none⟩ = some (.int .i64 (movedTo r p 8 5)) := (hb8).cell 5
          have x6 : (wr).cell? ⟨wo.heap.size, 6, none⟩ = some (.int .i64 (movedTo r p 8 6)) := (hb8).cell 6
          have x7 : (wr).cell? ⟨wo.heap.size, 7, none⟩ = some (.int .i64 (movedTo r p 8 7)) := (hb8).cell 7
          replace hb8 := hide hb8
          obtain ⟨A2, c2, w', hrun, hO2, hg2⟩ := append_order (base := w3.heap.size) (w := wr.alloc (.cells #[.int .i64 (movedTo r p 8 0), .int .i64 (movedTo r p 8 1), .int .i64 (movedTo r p 8 2), .int .i64 (movedTo r p 8 3), .int .i64 (movedTo r p 8 4), .int .i64 (movedTo r p 8 5), .int .i64 (movedTo r p 8 6), .int .i64 (movedTo r p 8 7)] 35)) (v := .slice A' k c') (R := (Fr.map (permRow p)).take k) (S := [movedTo r p 8]) (x := .slice (some ⟨wr.heap.size, 0, none⟩) 1 1)
            ((hI.out.1.ext hJ.out.2).ext ((Ext.refl _).alloc _)) (OwnRows.blk (R := [movedTo r p 8]) (c := 1) (base := 0) (g := wr.heap.size) (Nat.zero_le _) (Blk.new _ _ _) rfl (by simp)).rows (by simp) (by simp; omega) (by have := hI.out.2.size; have := hJ.out.2.size; simp at *; omega)
          have hE7 : Hid (Ext w3 w') := ((hI.out.2.trans hJ.out.2).alloc _).grown' hg2 hI.out.1.base_le
          rw [List.length_take, hml, Nat.min_eq_left hk] at hrun hO2
          replace hrun := hide hrun
          replace hO2 := hide hO2
          clear hg2
          go_wp2_with (at_builtin; go_loud (refine wpList_append_run rfl _ _ _ rfl _ _ rfl rfl hrun.out ?_))
          refine ⟨⟨k + 1, A2, c2, hlt, by simp, rfl, ?_, hE7.out⟩, by simp [intOf]; omega⟩
          rw [← hrow.out]
          exact hO2.out
    · obtain rfl : k = Fr.length := by omega
      have hdl : decide (Fr.length < Fr.length) = false := by simp
      go_wp2
      go_ret2
      refine ⟨A', c', ?_, ?_, hE6.out.trans hI.out.2⟩
      · rw [hml]; rfl
      · rw [hml]
        have := hI.out.1
        rw [List.take_of_length_le (by rw [hml]; exact Nat.le_refl _)] at this
        exact this.base_mono hE6.out.size

end Go.Proofs.YteefhmdameeoaaaGreat
