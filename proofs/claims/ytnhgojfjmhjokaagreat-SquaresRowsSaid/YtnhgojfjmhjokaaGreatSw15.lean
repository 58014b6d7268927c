/- Part 15 of the proof of squaresRows_holds. No condition. -/
import Derived.Deep.Upon
import Derived.Test.YtnhgojfjmhjokaaGreatSw14
set_option linter.unusedSimpArgs false
set_option linter.unusedVariables false
set_option maxRecDepth 100000
