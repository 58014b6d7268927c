/- Part 11. No condition. -/
import Derived.Maps.OwnOps
import Derived.Test.YtcikkglcoeedlaaGreatDf10
set_option linter.unusedSimpArgs false
set_option linter.unusedVariables false
set_option maxRecDepth 100000
