/- Part 15. No condition. -/
import Derived.Deep.Upon
import Derived.Test.YtcikkglcoeedlaaGreatDf14
set_option linter.unusedSimpArgs false
set_option linter.unusedVariables false
set_option maxRecDepth 100000
