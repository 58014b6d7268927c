/- Part 14 of the proof of claimAnswers_holds. No condition. -/
import Derived.Shelf.SlSortCmp.WholeK
import Derived.Test.YtcikkglcoeedlaaGreatCa1
set_option linter.unusedSimpArgs false
set_option linter.unusedVariables false
set_option maxRecDepth 100000
