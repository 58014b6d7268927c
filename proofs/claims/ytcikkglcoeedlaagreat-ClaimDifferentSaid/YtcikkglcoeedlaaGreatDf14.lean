/- Part 14. No condition. -/
import Derived.Maps.RangeWalk
import Derived.Test.YtcikkglcoeedlaaGreatDf4
import Derived.Test.YtcikkglcoeedlaaGreatDf13
set_option linter.unusedSimpArgs false
set_option linter.unusedVariables false
set_option maxRecDepth 100000
