/- Part 12. No condition. -/
import Derived.Shelf.SlSortCmp.WholeK
import Derived.Test.YtcikkglcoeedlaaGreatDf1
set_option linter.unusedSimpArgs false
set_option linter.unusedVariables false
set_option maxRecDepth 100000
