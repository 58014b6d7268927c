/-
  The law OrderErrors returns true for every input: its walk.
-/
import Derived.Test.YteefhmdameeoaaaGreatRefu
set_option linter.unusedSimpArgs false
set_option linter.unusedVariables false
namespace Go.Proofs.YteefhmdameeoaaaGreat
open Go.RowKit

/-- What Full and Permute return: rows and an error. -/
def RetSays (n : Int) (S : List (Nat → Int)) (w : World) (e : Ending) (w' : World) : Prop :=
  ∃ (A : Option Addr) (c : Nat), e = .returned (.tuple #[.slice A S.length c, .int .i64 n]) ∧ RowsAt .i64 35 w' (.slice A S.length c) S ∧ Ext w w'
theorem RetErr.says {n : Int} {w : World} {e : Ending} {w' : World} (h : RetErr n w e w') : RetSays n [] w e w' := by
  obtain ⟨rfl, hE⟩ := h
  exact ⟨none, 0, rfl, ⟨none, 0, rfl, by simp, by simp, fun h => by simp at h⟩, hE⟩
theorem RetFull.says {S : List (Nat → Int)} {w : World} {e : Ending} {w' : World} (h : RetFull S w e w') : RetSays 0 S w e w' := by
  obtain ⟨A, c, rfl, hO, hE⟩ := h
  exact ⟨A, c, rfl, hO.rows, hE⟩
theorem full_says (R : List (Nat → Int)) : ∃ (n : Int) (S : List (Nat → Int)), ∀ v w, RowsIn .i64 w v R →
    Calls Tryz.prog 11 #[v] w (RetSays n S w) ∧ Calls Tryz.prog 12 #[v] w (RetSays n S w) := by
  by_cases hv : OValid R
  · by_cases ht : Total R
    · exact ⟨0, R, fun v w h => ⟨(Full_tot_in v R w h hv ht).mono fun _ _ h => RetFull.says h, (RFull_tot v R w h hv ht).mono fun _ _ h => RetFull.says h⟩⟩
    · by_cases h16 : R.length ≤ 16
      · exact ⟨0, R ++ unitRows 8, fun v w h => ⟨(Full_app_in v R w h hv ht h16).mono fun _ _ h => RetFull.says h, (RFull_app v R w h hv ht h16).mono fun _ _ h => RetFull.says h⟩⟩
      · exact ⟨2, [], fun v w h => ⟨(Full_big_in v R w h hv ht (by omega)).mono fun _ _ h => RetErr.says h, (RFull_big v R w h hv ht (by omega)).mono fun _ _ h => RetErr.says h⟩⟩
  · exact ⟨50, [], fun v w h => ⟨(Full_bad_in v R w h hv).mono fun _ _ h => RetErr.says h, (RFull_bad v R w h hv).mono fun _ _ h => RetErr.says h⟩⟩
theorem perm_says (R : List (Nat → Int)) (a : Nat → Int) : ∃ (n : Int) (S : List (Nat → Int)), ∀ v w, RowsIn .i64 w v R →
    Calls Tryz.prog 13 #[v, .agg #[.int .i64 (a 0), .int .i64 (a 1), .int .i64 (a 2), .int .i64 (a 3), .int .i64 (a 4), .int .i64 (a 5), .int .i64 (a 6), .int .i64 (a 7)]] w (RetSays n S w) ∧ Calls Tryz.prog 14 #[v, .agg #[.int .i64 (a 0), .int .i64 (a 1), .int .i64 (a 2), .int .i64 (a 3), .int .i64 (a 4), .int .i64 (a 5), .int .i64 (a 6), .int .i64 (a 7)]] w (RetSays n S w) := by
  by_cases hv : OValid R
  · by_cases hg : GoodP a
    · have hp := hg.isPerm
      have ha : (#[.int .i64 (a 0), .int .i64 (a 1), .int .i64 (a 2), .int .i64 (a 3), .int .i64 (a 4), .int .i64 (a 5), .int .i64 (a 6), .int .i64 (a 7)] : Array Value) = #[.int .i64 (castP (natP a) 0), .int .i64 (castP (natP a) 1), .int .i64 (castP (natP a) 2), .int .i64 (castP (natP a) 3), .int .i64 (castP (natP a) 4), .int .i64 (castP (natP a) 5), .int .i64 (castP (natP a) 6), .int .i64 (castP (natP a) 7)] := c8_congr (a := a) (b := castP (natP a)) hg.cast
      have hg' : GoodP (castP (natP a)) := fun k hk => by
        have h1 := hg k hk
        refine ⟨by rw [← hg.cast k hk]; exact h1.1, by rw [← hg.cast k hk]; exact h1.2.1, fun j hj => ?_⟩
        rw [← hg.cast k hk, ← hg.cast j (by omega)]
        exact h1.2.2 j hj
      by_cases hb : ¬ Total R ∧ 16 < R.length
      · exact ⟨2, [], fun v w h => ⟨(Permute_err_in v R a w h hv 2 (by omega) (fun _ => ⟨rfl, hb⟩) (fun h => absurd hg h)).mono fun _ _ h => RetErr.says h, (RPermute_big v R a w h hv hg hb.1 hb.2).mono fun _ _ h => RetErr.says h⟩⟩
      · obtain ⟨Fr, hf⟩ : ∃ Fr, FullOf R Fr := by
          by_cases ht : Total R
          · exact ⟨R, .inl ⟨ht, rfl⟩⟩
          · exact ⟨_, .inr ⟨ht, by have : ¬ 16 < R.length := fun h => hb ⟨ht, h⟩; omega, rfl⟩⟩
        refine ⟨0, Fr.map (permRow (natP a)), fun v w h => ?_⟩
        rw [ha]
        exact ⟨(Permute_ok_in v R Fr (natP a) w h hv hf hp.lt hp.inj).mono fun _ _ h => RetFull.says h, (RPermute_ok v R Fr (natP a) w h hv hf hp.lt hg').mono fun _ _ h => RetFull.says h⟩
    · exact ⟨1, [], fun v w h => ⟨(Permute_err_in v R a w h hv 1 (by omega) (fun h => absurd h hg) (fun _ => rfl)).mono fun _ _ h => RetErr.says h, (RPermute_no v R a w h hv hg).mono fun _ _ h => RetErr.says h⟩⟩
  · exact ⟨50, [], fun v w h => ⟨(Permute_bad_in v R a w h hv).mono fun _ _ h => RetErr.says h, (RPermute_bad v R a w h hv).mono fun _ _ h => RetErr.says h⟩⟩

theorem alike_self (S : List (Nat → Int)) : alikeB S S = true := by
  simp only [alikeB, alikeTo, decide_true, Bool.true_and, List.all_eq_true, List.mem_range]
  intro i hi
  exact eqB_true.2 fun _ _ => rfl

end Go.Proofs.YteefhmdameeoaaaGreat
