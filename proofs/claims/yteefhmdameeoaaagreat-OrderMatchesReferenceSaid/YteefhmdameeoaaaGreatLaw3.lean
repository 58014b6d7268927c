/-
  The named orders and elimination, plainly.
-/
import Derived.Test.YteefhmdameeoaaaGreatLaw2
set_option linter.unusedSimpArgs false
set_option linter.unusedVariables false
namespace Go.Proofs.YteefhmdameeoaaaGreat
open Go.RowKit

theorem ite3 (x y p q r : Int) : (if x - y < 0 then p else if 0 < x - y then q else r) = if x < y then p else if y < x then q else r := by
  by_cases h1 : x < y
  · rw [if_pos (show x - y < 0 by omega), if_pos h1]
  · rw [if_neg (show ¬ x - y < 0 by omega), if_neg h1]
    by_cases h2 : y < x
    · rw [if_pos (show 0 < x - y by omega), if_pos h2]
    · rw [if_neg (show ¬ 0 < x - y by omega), if_neg h2]
end Go.Proofs.YteefhmdameeoaaaGreat
