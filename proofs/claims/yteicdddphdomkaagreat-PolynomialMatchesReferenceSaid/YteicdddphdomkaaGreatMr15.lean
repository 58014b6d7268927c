/-
  Part 15 of the proof that polynomialMatchesReference_holds holds; the statement is the last theorem of the last part. No condition.
-/
import Derived.Deep.Upon
import Derived.Test.YteicdddphdomkaaGreatMr14
set_option linter.unusedSimpArgs false
set_option linter.unusedVariables false
