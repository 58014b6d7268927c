/- Part 14. No condition. -/
import Derived.Maps.RangeWalk
import Derived.Test.YtcikkglcoeedlaaGreatDm4
import Derived.Test.YtcikkglcoeedlaaGreatDm13
set_option linter.all false
set_option maxRecDepth 100000
