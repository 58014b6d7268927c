/- Part 10. No condition. -/
import Derived.Maps.RangeRun
import Derived.WideKeyRuns
import Derived.Test.YtcikkglcoeedlaaGreatDf9
set_option linter.unusedSimpArgs false
set_option linter.unusedVariables false
set_option maxRecDepth 100000
