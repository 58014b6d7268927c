/- Part 13 of the proof of claimClashes_holds. No condition. -/
import Derived.Shelf.SlSortCmp.WholeK
import Derived.Test.YtcikkglcoeedlaaGreatCx1
set_option linter.unusedSimpArgs false
set_option linter.unusedVariables false
set_option maxRecDepth 100000
