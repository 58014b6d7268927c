/- Part 13 of the proof of claimAnswers_holds. No condition. -/
import Derived.Maps.OwnOps
import Derived.Test.YtcikkglcoeedlaaGreatCa12
set_option linter.unusedSimpArgs false
set_option linter.unusedVariables false
set_option maxRecDepth 100000
