/-
  Part 15 of the proof that polynomialSubsts_holds holds; the statement is the last theorem of the last part. No condition.
-/
import Derived.Deep.Upon
import Derived.Test.YteicdddphdomkaaGreatSu14
set_option linter.unusedSimpArgs false
set_option linter.unusedVariables false
set_option maxRecDepth 100000
