/- Part 12 of the proof of claimClashes_holds. No condition. -/
import Derived.Maps.OwnOps
import Derived.Test.YtcikkglcoeedlaaGreatCx11
set_option linter.unusedSimpArgs false
set_option linter.unusedVariables false
set_option maxRecDepth 100000
