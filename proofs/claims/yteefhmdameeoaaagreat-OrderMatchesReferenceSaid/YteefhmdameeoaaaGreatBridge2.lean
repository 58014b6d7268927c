/-
  From an array's reading to the rows that it holds.
-/
import Derived.Test.YteefhmdameeoaaaGreatBridge
set_option linter.unusedSimpArgs false
set_option linter.unusedVariables false
namespace Go.Proofs.YteefhmdameeoaaaGreat
open Go.ChangeShapes Go.WideShapes Go.ChangeAt Go.RowKit Go.Deep Go.Joins

theorem okWide_array {P : Program} {w : World} {r : Reach} {b0 : Nat} {t : TypeId} {v : Value} {n : Nat} {e : TypeId} (ht : P.underlying t = some (.array n e)) (h : Value.okWide P w r b0 t v) : ∃ cs, v = .agg cs ∧ cs.size = P.cellsOf t := by
  simp only [Value.okWide, ht] at h
  obtain ⟨cs, h1, h2, _⟩ := h
  exact ⟨cs, h1, h2⟩
theorem array1 {cs : Array Value} (h : cs.size = 1) : ∃ a, cs = #[a] := by
  cases cs with
  | mk l => match l, h with
    | [a], _ => exact ⟨a, rfl⟩
theorem open_agg1 {H : Type} {enc : TypeId × Value → H} {P : Program} {w : World} {base : Nat} {spare : Nat → Bool} {held : Bool} {r : Reach} {b0 : Nat} {t : TypeId} {f0 : Field} {v : Value} {d : DataW H} {p : List MemPlace} (hs : P.underlying t = some (.struct #[f0])) (hone : oneCellFields P #[f0] = true) (hC : P.cellsOf t = 1)
    (hv : Value.okWide P w r b0 t v) (h : DataW.Trod enc P w base spare held t v d p) : ∃ (v0 : Value) (y0 : DataW H × List MemPlace) (n : Nat), v = .agg #[v0] ∧ DataW.trod enc P w base spare held n f0.type [v0] = some y0 := by
  obtain ⟨cs, rfl, hsz⟩ := okWide_struct hs hv
  obtain ⟨c0, rfl⟩ := array1 (hsz.trans hC)
  obtain ⟨fuel, hf⟩ := h
  obtain ⟨y0, n, _, _, h0⟩ := trod_struct1 hs hf
  obtain ⟨o0, k0⟩ := hone_of hone 0 f0 rfl
  exact ⟨c0, y0, n, rfl, by simpa [Value.cells, o0, k0] using h0⟩

end Go.Proofs.YteefhmdameeoaaaGreat
