/-
  From an argument's reading to the rows that it leads to.
-/
import Derived.Test.YteefhmdameeoaaaGreatRows
import Derived.Test.YteefhmdameeoaaaGreatP5
import Derived.ProofKit
import Derived.OpenShut
import Derived.ShutString
import Derived.ChangeOld
import Derived.Below
import Derived.Lib.SmallJoins
import Derived.Deep.Slices
set_option linter.unusedSimpArgs false
set_option linter.unusedVariables false
namespace Go.Proofs.YteefhmdameeoaaaGreat
open Go.ChangeShapes Go.WideShapes Go.ChangeAt Go.RowKit Go.Deep

theorem own : ownKnob Tryz.prog.godebug = none := by kernel_rfl
theorem laidOut : laidOutB Tryz.prog = true := by kernel_rfl

/-- Eight numbers read as such. -/
theorem arr8_of {H : Type} {enc : TypeId × Value → H} {P : Program} {w : World} {base : Nat} {spare : Nat → Bool} {held : Bool} {fuel : Nat} {E I : TypeId} {κ : IntKind} {cs : List Value} {x : DataW H × List MemPlace} (hE : P.underlying E = some (.array 8 I)) (hI : P.underlying I = some (.int κ)) (hc : P.cellsOf I = 1) (hE8 : P.cellsOf E = 8)
    (h : DataW.trod enc P w base spare held fuel E cs = some x) : ∃ a : Nat → Int, cs.length = 8 ∧ (∀ j, j < 8 → cs[j]? = some (.int κ (a j))) ∧ ∀ j, j < 8 → (Lit.int κ (a j)).wf = true := by
  obtain ⟨xs, m, _, _, hl, hx, hel⟩ := DataW.trod_array hE h
  rw [hE8] at hl
  have key : ∀ j, ∃ n : Int, j < 8 → cs[j]? = some (.int κ n) ∧ (Lit.int κ n).wf = true := fun j => by
    by_cases hj : j < 8
    · have h1 := hel j hj
      rw [hc, Nat.mul_one] at h1
      have hxj : xs[j]? = some xs[j] := List.getElem?_eq_getElem (by omega)
      rw [hxj] at h1
      obtain ⟨n, h2, _, h3⟩ := DataW.trod_int hI h1
      refine ⟨n, fun _ => ⟨?_, h3⟩⟩
      have hd : (cs.drop j).take 1 = [cs[j]] := by rw [List.drop_eq_getElem_cons (by omega)]; rfl
      rw [hd] at h2
      have : cs[j] = .int κ n := by simpa using h2
      rw [List.getElem?_eq_getElem (by omega), this]
    · exact ⟨0, fun h => absurd h hj⟩
  refine ⟨fun j => (key j).choose, hl, fun j hj => ((key j).choose_spec hj).1, fun j hj => ((key j).choose_spec hj).2⟩

theorem rowsIn_of {H : Type} {enc : TypeId × Value → H} {P : Program} {w : World} {base : Nat} {spare : Nat → Bool} {held : Bool} {fuel : Nat} {T E I : TypeId} {κ : IntKind} {v : Value} {x : DataW H × List MemPlace} (hT : P.underlying T = some (.slice E)) (hE : P.underlying E = some (.array 8 I)) (hI : P.underlying I = some (.int κ)) (hc : P.cellsOf I = 1) (hE8 : P.cellsOf E = 8)
    (h : DataW.trod enc P w base spare held fuel T [v] = some x) : ∃ R : List (Nat → Int), RowsIn κ w v R ∧ ∀ r ∈ R, ∀ j, j < 8 → (Lit.int κ (r j)).wf = true := by
  rcases open_slice hT h with ⟨h1, _⟩ | ⟨a, len, cap, m, n, D, Pl, h1, hb, hlc, hcap, hm, _, hel⟩
  · obtain rfl : v = .slice none 0 0 := by simpa using h1
    exact ⟨[], ⟨none, 0, rfl, by simp, by simp, fun hp => by simp at hp⟩, fun r hr => by cases hr⟩
  · obtain rfl : v = .slice (some a) len cap := by simpa using h1
    have hlm : len ≤ m := by rw [hm]; split <;> omega
    have hcap' : cap ≤ 9223372036854775807 := by simpa [maxLen] using hcap
    by_cases h0 : len = 0
    · subst h0
      exact ⟨[], ⟨some a, cap, rfl, by simp, hcap', fun hp => by simp at hp⟩, fun r hr => by cases hr⟩
    · obtain ⟨b, off, spot⟩ := a
      have hspot : spot = none := by
        obtain ⟨cs', hcs, htr⟩ := hel 0 (by omega)
        rw [hE8] at hcs
        obtain ⟨r, hl8, hr1, _⟩ := arr8_of hE hI hc hE8 htr
        have h3 := (World.cells?_some hcs).2.2 0 (by omega)
        rw [hr1 0 (by omega)] at h3
        simpa [Addr.add] using World.cell?_spot h3
      subst hspot
      have key : ∀ i, ∃ r : Nat → Int, i < len → (∀ j, j < 8 → w.cell? ⟨b, off + i * 8 + j, none⟩ = some (.int κ (r j))) ∧ ∀ j, j < 8 → (Lit.int κ (r j)).wf = true := fun i => by
        by_cases hi : i < len
        · obtain ⟨cs', hcs, htr⟩ := hel i (by omega)
          rw [hE8] at hcs
          obtain ⟨r, hl8, hr1, hr2⟩ := arr8_of hE hI hc hE8 htr
          refine ⟨r, fun _ => ⟨fun j hj => ?_, hr2⟩⟩
          have h3 := (World.cells?_some hcs).2.2 j hj
          rw [hr1 j hj, add_mk, add_mk] at h3
          exact h3
        · exact ⟨fun _ => 0, fun h => absurd h hi⟩
      refine ⟨(List.range len).map fun i => (key i).choose, ⟨some ⟨b, off, none⟩, cap, by simp, by simpa using hlc, hcap', fun _ => ⟨b, off, rfl, ?_, fun k j hk hj => ?_⟩⟩, fun r hr => ?_⟩
      · exact World.block_lt_of_cell? w ⟨b, off + 0 * 8 + 0, none⟩ (((key 0).choose_spec (by omega)).1 0 (by omega))
      · have hk : k < len := by simpa using hk
        have e : rowAt ((List.range len).map fun i => (key i).choose) k = (key k).choose := by simp [rowAt, List.getD_eq_getElem?_getD, hk]
        rw [e]
        exact ((key k).choose_spec hk).1 j hj
      · obtain ⟨i, hi, rfl⟩ := List.mem_map.1 hr
        exact ((key i).choose_spec (by simpa using hi)).2

end Go.Proofs.YteefhmdameeoaaaGreat
