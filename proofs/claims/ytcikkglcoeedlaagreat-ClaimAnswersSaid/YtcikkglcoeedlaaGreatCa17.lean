/- Part 17 of the proof of claimAnswers_holds. No condition. -/
import Derived.Deep.Upon
import Derived.Test.YtcikkglcoeedlaaGreatCa16
set_option linter.unusedSimpArgs false
set_option linter.unusedVariables false
set_option maxRecDepth 100000
