/-
  The law OrderErrors returns true for every input: its walk.
-/
import Derived.Test.YteefhmdameeoaaaGreatRefu
set_option linter.unusedSimpArgs false
set_option linter.unusedVariables false
namespace Go.Proofs.YteefhmdameeoaaaGreat
open Go.RowKit

/-- What Full and Permute return: rows and an error. -/
def RetSays (n : Int) (S : List (Nat → Int)) (w : World) (e : Ending) (w' : World) : Prop :=
  ∃ (A : Option Addr) (c : Nat), e = .returned (.tuple #[.slice A S.length c, .int .i64 n]) ∧ RowsAt .i64 35 w' (.slice A S.length c) S ∧ Ext w w'
theorem RetErr.says {n : Int} {w : World} {e : Ending} {w' : World} (h : RetErr n w e w') : RetSays n [] w e w' := by
  obtain ⟨rfl, hE⟩ := h
  exact ⟨none, 0, rfl, ⟨none, 0, rfl, by simp, by simp, fun h => by simp at h⟩, hE⟩
theorem RetFull.says {S : List (Nat → Int)} {w : World} {e : Ending} {w' : World} (h : RetFull S w e w') : RetSays 0 S w e w' := by
  obtain ⟨A, c, rfl, hO, hE⟩ := h
  exact ⟨A, c, rfl, hO.rows, hE⟩
theorem full_says (R : List (Nat → Int)) : ∃ (n : Int) (S : List (Nat → Int)), ∀ v w, RowsIn .i64 w v R →
    Calls Tryz.prog 11 #[v] w (RetSays n S w) ∧ Calls Tryz.prog 12 #[v] w (RetSays n S w) := by
  by_cases hv : OValid R
  · by_cases ht : Total R
    · exact ⟨0, R, fun v w h => ⟨(Full_tot_in v R w h hv ht).mono fun _ _ h => RetFull.says h, (RFull_tot v R w h hv ht).mono fun _ _ h => RetFull.says h⟩⟩
    · by_cases h16 : R.length ≤ 16
      · exact ⟨0, R ++ unitRows 8, fun v w h => ⟨(Full_app_in v R w h hv ht h16).mono fun _ _ h => RetFull.says h, (RFull_app v R w h hv ht h16).mono fun _ _ h => RetFull.says h⟩⟩
      · exact ⟨2, [], fun v w h => ⟨(Full_big_in v R w h hv ht (by omega)).mono fun _ _ h => RetErr.says h, (RFull_big v R w h hv ht (by omega)).mono fun _ _ h => RetErr.says h⟩⟩
  · exact ⟨50, [], fun v w h => ⟨(Full_bad_in v R w h hv).mono fun _ _ h => RetErr.says h, (RFull_bad v R w h hv).mono fun _ _ h => RetErr.says h⟩⟩
theorem perm_says (R : List (Nat → Int)) (a : Nat → Int) : ∃ (n : Int) (S : List (Nat → Int)), ∀ v w, RowsIn .i64 w v R →
    Calls Tryz.prog 13 #[v, .agg #[.int .i64 (a 0), .int .i64 (a 1), .int .i64 (a 2), .int .i64 (a 3), .int .i64 (a 4), .int .i64 (a 5), .int .i64 (a 6), .int .i64 (a 7)]] w (RetSays n S w) ∧ Calls Tryz.prog 14 #[v, .agg #[.int .i64 (a 0), .int .i64 (a 1), .int .i64 (a 2), .int .i64 (a 3), .int .i64 (a 4), .int .i64 (a 5), .int .i64 (a 6), .int .i64 (a 7)]] w (RetSays n S w) := by
  by_cases hv : OValid R
  · by_cases hg : GoodP a
    · have hp := hg.isPerm
      have ha : (#[.int .i64 (a 0), .int .i64 (a 1), .int .i64 (a 2), .int .i64 (a 3), .int .i64 (a 4), .int .i64 (a 5), .int .i64 (a 6), .int .i64 (a 7)] : Array Value) = #[.int .i64 (castP (natP a) 0), .int .i64 (castP (natP a) 1), .int .i64 (castP (natP a) 2), .int .i64 (castP (natP a) 3), .int .i64 (castP (natP a) 4), .int .i64 (castP (natP a) 5), .int .i64 (castP (natP a) 6), .int .i64 (castP (natP a) 7)] := c8_congr (a := a) (b := castP (natP a)) hg.cast
      have hg' : GoodP (castP (natP a)) := fun k hk => by
        have h1 := hg k hk
        refine ⟨by rw [← hg.cast k hk]; exact h1.1, by rw [← hg.cast k hk]; exact h1.2.1, fun j hj => ?_⟩
        rw [← hg.cast k hk, ← hg.cast j (by omega)]
        exact h1.2.2 j hj
      by_cases hb : ¬ Total R ∧ 16 < R.length
      · exact ⟨2, [], fun v w h => ⟨(Permute_err_in v R a w h hv 2 (by omega) (fun _ => ⟨rfl, hb⟩) (fun h => absurd hg h)).mono fun _ _ h => RetErr.says h, (RPermute_big v R a w h hv hg hb.1 hb.2).mono fun _ _ h => RetErr.says h⟩⟩
      · obtain ⟨Fr, hf⟩ : ∃ Fr, FullOf R Fr := by
          by_cases ht : Total R
          · exact ⟨R, .inl ⟨ht, rfl⟩⟩
          · exact ⟨_, .inr ⟨ht, by have : ¬ 16 < R.length := fun h => hb ⟨ht, h⟩; omega, rfl⟩⟩
        refine ⟨0, Fr.map (permRow (natP a)), fun v w h => ?_⟩
        rw [ha]
        exact ⟨(Permute_ok_in v R Fr (natP a) w h hv hf hp.lt hp.inj).mono fun _ _ h => RetFull.says h, (RPermute_ok v R Fr (natP a) w h hv hf hp.lt hg').mono fun _ _ h => RetFull.says h⟩
    · exact ⟨1, [], fun v w h => ⟨(Permute_err_in v R a w h hv 1 (by omega) (fun h => absurd h hg) (fun _ => rfl)).mono fun _ _ h => RetErr.says h, (RPermute_no v R a w h hv hg).mono fun _ _ h => RetErr.says h⟩⟩
  · exact ⟨50, [], fun v w h => ⟨(Permute_bad_in v R a w h hv).mono fun _ _ h => RetErr.says h, (RPermute_bad v R a w h hv).mono fun _ _ h => RetErr.says h⟩⟩

theorem alike_self (S : List (Nat → Int)) : alikeB S S = true := by
  simp only [alikeB, alikeTo, decide_true, Bool.true_and, List.all_eq_true, List.mem_range]
  intro i hi
  exact eqB_true.2 fun _ _ => rfl

set_option maxRecDepth 100000 in
set_option maxHeartbeats 3200000 in
theorem errs_walk (v : Value) (R : List (Nat → Int)) (a : Nat → Int) (w : World) (hv : RowsIn .i64 w v R) :
    Calls Tryz.prog 4 #[v, .agg #[.int .i64 (a 0), .int .i64 (a 1), .int .i64 (a 2), .int .i64 (a 3), .int .i64 (a 4), .int .i64 (a 5), .int .i64 (a 6), .int .i64 (a 7)]] w fun e w' => e = .returned (.bool true) ∧ Ext w w' := by
  obtain ⟨n1, S1, hfull⟩ := full_says R
  obtain ⟨n2, S2, hperm⟩ := perm_says R a
  replace hfull := hide hfull
  replace hperm := hide hperm
  have ha1 := hide (alike_self S1)
  have ha2 := hide (alike_self S2)
  have hE0 : Hid (Ext w (w.alloc (.cells #[.int .i64 (a 0), .int .i64 (a 1), .int .i64 (a 2), .int .i64 (a 3), .int .i64 (a 4), .int .i64 (a 5), .int .i64 (a 6), .int .i64 (a 7)] 35))) := (Ext.refl w).alloc _
  have hB0 : Hid (Blk (w.alloc (.cells #[.int .i64 (a 0), .int .i64 (a 1), .int .i64 (a 2), .int .i64 (a 3), .int .i64 (a 4), .int .i64 (a 5), .int .i64 (a 6), .int .i64 (a 7)] 35)) w.heap.size 35 (c8 a)) := Blk.new _ _ _
  obtain ⟨A0, c0, rfl, hc0, hm0, _⟩ := id hv
  have hlX : R.length ≤ 9223372036854775807 := by omega
  clear hc0 hm0
  replace hv := hide hv
  go_enter Tryz.func4, Tryz.ntmps4
  go_wp2_with fail
  generalize (w.alloc (.cells #[.int .i64 (a 0), .int .i64 (a 1), .int .i64 (a 2), .int .i64 (a 3), .int .i64 (a 4), .int .i64 (a 5), .int .i64 (a 6), .int .i64 (a 7)] 35)) = wa at *
  refine (examples_any _).mono ?_
  rintro e w1 ⟨rfl, hE⟩
  replace hE0 := hide (hE0.out.trans hE)
  replace hB0 := hide (hB0.out.ext hE)
  clear hE
  by_cases h40 : 40 < R.length
  · go_wp2
    go_ret
    exact ⟨rfl, hE0.out⟩
  · go_wp2_with fail
    refine ((hfull.out _ _ (hv.out.ext hE0.out)).1).mono ?_
    rintro e w2 ⟨A1, c1, rfl, hO1, hE⟩
    replace hE0 := hide (hE0.out.trans hE)
    replace hB0 := hide (hB0.out.ext hE)
    replace hO1 := hide hO1
    clear hE
    go_wp2_with fail
    refine ((hfull.out _ _ (hv.out.ext hE0.out)).2).mono ?_
    rintro e w3 ⟨A2, c2, rfl, hO2, hE⟩
    replace hE0 := hide (hE0.out.trans hE)
    replace hB0 := hide (hB0.out.ext hE)
    replace hO1 := hide (hO1.out.ext hE)
    replace hO2 := hide hO2
    clear hE
    have q0 : (w3).cell? ⟨w.heap.size, 0, none⟩ = some (.int .i64 (a 0)) := (hB0.out).cell 0
    have q1 : (w3).cell? ⟨w.heap.size, 1, none⟩ = some (.int .i64 (a 1)) := (hB0.out).cell 1
    have q2 : (w3).cell? ⟨w.heap.size, 2, none⟩ = some (.int .i64 (a 2)) := (hB0.out).cell 2
    have q3 : (w3).cell? ⟨w.heap.size, 3, none⟩ = some (.int .i64 (a 3)) := (hB0.out).cell 3
    have q4 : (w3).cell? ⟨w.heap.size, 4, none⟩ = some (.int .i64 (a 4)) := (hB0.out).cell 4
    have q5 : (w3).cell? ⟨w.heap.size, 5, none⟩ = some (.int .i64 (a 5)) := (hB0.out).cell 5
    have q6 : (w3).cell? ⟨w.heap.size, 6, none⟩ = some (.int .i64 (a 6)) := (hB0.out).cell 6
    have q7 : (w3).cell? ⟨w.heap.size, 7, none⟩ = some (.int .i64 (a 7)) := (hB0.out).cell 7
    go_wp2_with fail
    refine ((hperm.out _ _ (hv.out.ext hE0.out)).1).mono ?_
    rintro e w4 ⟨A3, c3, rfl, hO3, hE⟩
    replace hE0 := hide (hE0.out.trans hE)
    replace hB0 := hide (hB0.out.ext hE)
    replace hO1 := hide (hO1.out.ext hE)
    replace hO2 := hide (hO2.out.ext hE)
    replace hO3 := hide hO3
    clear hE q0 q1 q2 q3 q4 q5 q6 q7
    have q0 : (w4).cell? ⟨w.heap.size, 0, none⟩ = some (.int .i64 (a 0)) := (hB0.out).cell 0
    have q1 : (w4).cell? ⟨w.heap.size, 1, none⟩ = some (.int .i64 (a 1)) := (hB0.out).cell 1
    have q2 : (w4).cell? ⟨w.heap.size, 2, none⟩ = some (.int .i64 (a 2)) := (hB0.out).cell 2
    have q3 : (w4).cell? ⟨w.heap.size, 3, none⟩ = some (.int .i64 (a 3)) := (hB0.out).cell 3
    have q4 : (w4).cell? ⟨w.heap.size, 4, none⟩ = some (.int .i64 (a 4)) := (hB0.out).cell 4
    have q5 : (w4).cell? ⟨w.heap.size, 5, none⟩ = some (.int .i64 (a 5)) := (hB0.out).cell 5
    have q6 : (w4).cell? ⟨w.heap.size, 6, none⟩ = some (.int .i64 (a 6)) := (hB0.out).cell 6
    have q7 : (w4).cell? ⟨w.heap.size, 7, none⟩ = some (.int .i64 (a 7)) := (hB0.out).cell 7
    go_wp2_with fail
    refine ((hperm.out _ _ (hv.out.ext hE0.out)).2).mono ?_
    rintro e w5 ⟨A4, c4, rfl, hO4, hE⟩
    replace hE0 := hide (hE0.out.trans hE)
    replace hO1 := hide (hO1.out.ext hE)
    replace hO2 := hide (hO2.out.ext hE)
    replace hO3 := hide (hO3.out.ext hE)
    replace hO4 := hide hO4
    clear hE q0 q1 q2 q3 q4 q5 q6 q7 hB0
    go_wp2_with fail
    refine (oValid_in _ R _ (hv.out.ext hE0.out)).mono ?_
    rintro e w6 ⟨rfl, hE⟩
    replace hE0 := hide (hE0.out.trans hE)
    replace hO1 := hide (hO1.out.ext hE)
    replace hO2 := hide (hO2.out.ext hE)
    replace hO3 := hide (hO3.out.ext hE)
    replace hO4 := hide (hO4.out.ext hE)
    clear hE
    go_wp2_with fail
    refine (RValid_any _ R _ (hv.out.ext hE0.out)).mono ?_
    rintro e w7 ⟨rfl, hE⟩
    replace hE0 := hide (hE0.out.trans hE)
    replace hO1 := hide (hO1.out.ext hE)
    replace hO2 := hide (hO2.out.ext hE)
    replace hO3 := hide (hO3.out.ext hE)
    replace hO4 := hide (hO4.out.ext hE)
    clear hE
    generalize ovB R = bb at *
    go_wp2_with fail
    refine (Same_any _ _ S1 S1 _ hO1.out hO2.out).mono ?_
    rw [ha1.out]
    rintro e w8 ⟨rfl, hE⟩
    replace hE0 := hide (hE0.out.trans hE)
    replace hO3 := hide (hO3.out.ext hE)
    replace hO4 := hide (hO4.out.ext hE)
    clear hE
    go_wp2_with fail
    refine (Same_any _ _ S2 S2 _ hO3.out hO4.out).mono ?_
    rw [ha2.out]
    rintro e w9 ⟨rfl, hE⟩
    replace hE0 := hide (hE0.out.trans hE)
    clear hE
    go_wp2
    go_ret
    exact ⟨rfl, hE0.out⟩

end Go.Proofs.YteefhmdameeoaaaGreat
