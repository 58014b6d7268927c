/- Part 11 of the proof of claimClashes_holds. No condition. -/
import Derived.Maps.RangeRun
import Derived.WideKeyRuns
import Derived.Test.YtcikkglcoeedlaaGreatCx10
set_option linter.unusedSimpArgs false
set_option linter.unusedVariables false
set_option maxRecDepth 100000
