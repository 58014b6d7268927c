/-
  From an array's reading to the rows that it holds.
-/
import Derived.Test.YteefhmdameeoaaaGreatBridge
set_option linter.unusedSimpArgs false
set_option linter.unusedVariables false
namespace Go.Proofs.YteefhmdameeoaaaGreat
open Go.ChangeShapes Go.WideShapes Go.ChangeAt Go.RowKit Go.Deep Go.Joins

theorem okWide_array {P : Program} {w : World} {r : Reach} {b0 : Nat} {t : TypeId} {v : Value} {n : Nat} {e : TypeId} (ht : P.underlying t = some (.array n e)) (h : Value.okWide P w r b0 t v) : ∃ cs, v = .agg cs ∧ cs.size = P.cellsOf t := by
  simp only [Value.okWide, ht] at h
  obtain ⟨cs, h1, h2, _⟩ := h
  exact ⟨cs, h1, h2⟩
theorem arr8s_of {H : Type} {enc : TypeId × Value → H} {P : Program} {w : World} {base : Nat} {spare : Nat → Bool} {held : Bool} {fuel n : Nat} {T E I : TypeId} {κ : IntKind} {cs : List Value} {x : DataW H × List MemPlace} (hT : P.underlying T = some (.array n E)) (hE : P.underlying E = some (.array 8 I)) (hI : P.underlying I = some (.int κ)) (hc : P.cellsOf I = 1) (hE8 : P.cellsOf E = 8)
    (h : DataW.trod enc P w base spare held fuel T cs = some x) : ∃ r : Nat → Nat → Int, (∀ i j, i < n → j < 8 → cs[i * 8 + j]? = some (.int κ (r i j))) ∧ ∀ i j, i < n → j < 8 → (Lit.int κ (r i j)).wf = true := by
  obtain ⟨xs, m, _, _, hl, hx, hel⟩ := DataW.trod_array hT h
  have key : ∀ i, ∃ a : Nat → Int, i < n → (∀ j, j < 8 → cs[i * 8 + j]? = some (.int κ (a j))) ∧ ∀ j, j < 8 → (Lit.int κ (a j)).wf = true := fun i => by
    by_cases hi : i < n
    · have h1 := hel i hi
      have hxi : xs[i]? = some xs[i] := List.getElem?_eq_getElem (by omega)
      rw [hE8, hxi] at h1
      obtain ⟨a, hl8, ha, hw⟩ := arr8_of hE hI hc hE8 h1
      refine ⟨a, fun _ => ⟨fun j hj => ?_, hw⟩⟩
      have h2 := ha j hj
      rw [List.getElem?_take, if_pos hj, List.getElem?_drop] at h2
      exact h2
    · exact ⟨fun _ => 0, fun h => absurd h hi⟩
  exact ⟨fun i => (key i).choose, fun i j hi hj => ((key i).choose_spec hi).1 j hj, fun i j hi hj => ((key i).choose_spec hi).2 j hj⟩
theorem lit16 {κ : IntKind} {cs : Array Value} {r : Nat → Nat → Int} (hs : cs.size = 16) (h : ∀ i j, i < 2 → j < 8 → cs.toList[i * 8 + j]? = some (.int κ (r i j))) : cs = #[.int κ (r 0 0), .int κ (r 0 1), .int κ (r 0 2), .int κ (r 0 3), .int κ (r 0 4), .int κ (r 0 5), .int κ (r 0 6), .int κ (r 0 7), .int κ (r 1 0), .int κ (r 1 1), .int κ (r 1 2), .int κ (r 1 3), .int κ (r 1 4), .int κ (r 1 5), .int κ (r 1 6), .int κ (r 1 7)] := by
  apply Array.ext'
  apply List.ext_getElem?
  intro i
  by_cases hi : i < 16
  · rcases (show i = 0 ∨ i = 1 ∨ i = 2 ∨ i = 3 ∨ i = 4 ∨ i = 5 ∨ i = 6 ∨ i = 7 ∨ i = 8 ∨ i = 9 ∨ i = 10 ∨ i = 11 ∨ i = 12 ∨ i = 13 ∨ i = 14 ∨ i = 15 by omega) with rfl | rfl | rfl | rfl | rfl | rfl | rfl | rfl | rfl | rfl | rfl | rfl | rfl | rfl | rfl | rfl
    · exact h 0 0 (by decide) (by decide)
    · exact h 0 1 (by decide) (by decide)
    · exact h 0 2 (by decide) (by decide)
    · exact h 0 3 (by decide) (by decide)
    · exact h 0 4 (by decide) (by decide)
    · exact h 0 5 (by decide) (by decide)
    · exact h 0 6 (by decide) (by decide)
    · exact h 0 7 (by decide) (by decide)
    · exact h 1 0 (by decide) (by decide)
    · exact h 1 1 (by decide) (by decide)
    · exact h 1 2 (by decide) (by decide)
    · exact h 1 3 (by decide) (by decide)
    · exact h 1 4 (by decide) (by decide)
    · exact h 1 5 (by decide) (by decide)
    · exact h 1 6 (by decide) (by decide)
    · exact h 1 7 (by decide) (by decide)
  · rw [List.getElem?_eq_none (by simp [hs]; omega), List.getElem?_eq_none (by simp; omega)]
theorem lit24 {κ : IntKind} {cs : Array Value} {r : Nat → Nat → Int} (hs : cs.size = 24) (h : ∀ i j, i < 3 → j < 8 → cs.toList[i * 8 + j]? = some (.int κ (r i j))) : cs = #[.int κ (r 0 0), .int κ (r 0 1), .int κ (r 0 2), .int κ (r 0 3), .int κ (r 0 4), .int κ (r 0 5), .int κ (r 0 6), .int κ (r 0 7), .int κ (r 1 0), .int κ (r 1 1), .int κ (r 1 2), .int κ (r 1 3), .int κ (r 1 4), .int κ (r 1 5), .int κ (r 1 6), .int κ (r 1 7), .int κ (r 2 0), .int κ (r 2 1), .int κ (r 2 2), .int κ (r 2 3), .int κ (r 2 4), .int κ (r 2 5), .int κ (r 2 6), .int κ (r 2 7)] := by
  apply Array.ext'
  apply List.ext_getElem?
  intro i
  by_cases hi : i < 24
  · rcases (show i = 0 ∨ i = 1 ∨ i = 2 ∨ i = 3 ∨ i = 4 ∨ i = 5 ∨ i = 6 ∨ i = 7 ∨ i = 8 ∨ i = 9 ∨ i = 10 ∨ i = 11 ∨ i = 12 ∨ i = 13 ∨ i = 14 ∨ i = 15 ∨ i = 16 ∨ i = 17 ∨ i = 18 ∨ i = 19 ∨ i = 20 ∨ i = 21 ∨ i = 22 ∨ i = 23 by omega) with rfl | rfl | rfl | rfl | rfl | rfl | rfl | rfl | rfl | rfl | rfl | rfl | rfl | rfl | rfl | rfl | rfl | rfl | rfl | rfl | rfl | rfl | rfl | rfl
    · exact h 0 0 (by decide) (by decide)
    · exact h 0 1 (by decide) (by decide)
    · exact h 0 2 (by decide) (by decide)
    · exact h 0 3 (by decide) (by decide)
    · exact h 0 4 (by decide) (by decide)
    · exact h 0 5 (by decide) (by decide)
    · exact h 0 6 (by decide) (by decide)
    · exact h 0 7 (by decide) (by decide)
    · exact h 1 0 (by decide) (by decide)
    · exact h 1 1 (by decide) (by decide)
    · exact h 1 2 (by decide) (by decide)
    · exact h 1 3 (by decide) (by decide)
    · exact h 1 4 (by decide) (by decide)
    · exact h 1 5 (by decide) (by decide)
    · exact h 1 6 (by decide) (by decide)
    · exact h 1 7 (by decide) (by decide)
    · exact h 2 0 (by decide) (by decide)
    · exact h 2 1 (by decide) (by decide)
    · exact h 2 2 (by decide) (by decide)
    · exact h 2 3 (by decide) (by decide)
    · exact h 2 4 (by decide) (by decide)
    · exact h 2 5 (by decide) (by decide)
    · exact h 2 6 (by decide) (by decide)
    · exact h 2 7 (by decide) (by decide)
  · rw [List.getElem?_eq_none (by simp [hs]; omega), List.getElem?_eq_none (by simp; omega)]
theorem array1 {cs : Array Value} (h : cs.size = 1) : ∃ a, cs = #[a] := by
  cases cs with
  | mk l => match l, h with
    | [a], _ => exact ⟨a, rfl⟩
theorem open_agg1 {H : Type} {enc : TypeId × Value → H} {P : Program} {w : World} {base : Nat} {spare : Nat → Bool} {held : Bool} {r : Reach} {b0 : Nat} {t : TypeId} {f0 : Field} {v : Value} {d : DataW H} {p : List MemPlace} (hs : P.underlying t = some (.struct #[f0])) (hone : oneCellFields P #[f0] = true) (hC : P.cellsOf t = 1)
    (hv : Value.okWide P w r b0 t v) (h : DataW.Trod enc P w base spare held t v d p) : ∃ (v0 : Value) (y0 : DataW H × List MemPlace) (n : Nat), v = .agg #[v0] ∧ DataW.trod enc P w base spare held n f0.type [v0] = some y0 := by
  obtain ⟨cs, rfl, hsz⟩ := okWide_struct hs hv
  obtain ⟨c0, rfl⟩ := array1 (hsz.trans hC)
  obtain ⟨fuel, hf⟩ := h
  obtain ⟨y0, n, _, _, h0⟩ := trod_struct1 hs hf
  obtain ⟨o0, k0⟩ := hone_of hone 0 f0 rfl
  exact ⟨c0, y0, n, rfl, by simpa [Value.cells, o0, k0] using h0⟩

end Go.Proofs.YteefhmdameeoaaaGreat
