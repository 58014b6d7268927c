/- Part 11. No condition. -/
import Derived.Maps.OwnOps
import Derived.Test.YtcikkglcoeedlaaGreatDm10
set_option linter.all false
set_option maxRecDepth 100000
