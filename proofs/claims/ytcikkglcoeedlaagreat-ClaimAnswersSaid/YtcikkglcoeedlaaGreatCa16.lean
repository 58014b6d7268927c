/- Part 16 of the proof of claimAnswers_holds. No condition. -/
import Derived.Maps.RangeWalk
import Derived.Test.YtcikkglcoeedlaaGreatCa6
import Derived.Test.YtcikkglcoeedlaaGreatCa15
set_option linter.unusedSimpArgs false
set_option linter.unusedVariables false
set_option maxRecDepth 100000
