/- Part 12. No condition. -/
import Derived.Shelf.SlSortCmp.WholeK
import Derived.Test.YtcikkglcoeedlaaGreatDm1
set_option linter.all false
set_option maxRecDepth 100000
