/- Part 10. No condition. -/
import Derived.Maps.RangeRun
import Derived.WideKeyRuns
import Derived.Test.YtcikkglcoeedlaaGreatDm9
set_option linter.all false
set_option maxRecDepth 100000
