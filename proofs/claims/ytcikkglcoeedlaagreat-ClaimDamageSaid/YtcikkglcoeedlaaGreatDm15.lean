/- Part 15. No condition. -/
import Derived.Deep.Upon
import Derived.Test.YtcikkglcoeedlaaGreatDm14
set_option linter.all false
set_option maxRecDepth 100000
