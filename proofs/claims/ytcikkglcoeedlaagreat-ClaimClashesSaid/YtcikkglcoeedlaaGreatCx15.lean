/- Part 15 of the proof of claimClashes_holds. No condition. -/
import Derived.Maps.RangeWalk
import Derived.Test.YtcikkglcoeedlaaGreatCx5
import Derived.Test.YtcikkglcoeedlaaGreatCx14
set_option linter.unusedSimpArgs false
set_option linter.unusedVariables false
set_option maxRecDepth 100000
