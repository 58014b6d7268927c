/- Part 15 of the proof of polynomialValid_holds. No condition. -/
import Derived.Deep.Upon
import Derived.Test.YtclmdofdjbdfiaaGreatVa14
set_option linter.unusedSimpArgs false
set_option linter.unusedVariables false
set_option maxRecDepth 100000
