/- Part 15 of the proof of squaresGram_holds. No condition. -/
import Derived.Deep.Upon
import Derived.Test.YtnbfnoebjjdmnaaGreatGm14
set_option linter.unusedSimpArgs false
set_option linter.unusedVariables false
set_option maxRecDepth 100000
