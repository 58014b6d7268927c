/- Part 12 of the proof of claimAnswers_holds. No condition. -/
import Derived.Maps.RangeRun
import Derived.WideKeyRuns
import Derived.Test.YtcikkglcoeedlaaGreatCa11
set_option linter.unusedSimpArgs false
set_option linter.unusedVariables false
set_option maxRecDepth 100000
