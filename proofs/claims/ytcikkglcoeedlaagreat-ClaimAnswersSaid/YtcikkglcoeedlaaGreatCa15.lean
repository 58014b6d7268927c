/- Part 15 of the proof of claimAnswers_holds. No condition. -/
import Derived.Test.YtcikkglcoeedlaaGreatCa13
import Derived.Test.YtcikkglcoeedlaaGreatCa14
set_option linter.unusedSimpArgs false
set_option linter.unusedVariables false
set_option maxRecDepth 100000
namespace Go.Proofs.YtcikkglcoeedlaaGreat
section
open Go.RowKit
open Go.Sort
theorem Lc(a b:Nat->Int):lx a b=GT a b:=by simp[lx,Ho,HV]
end
end Go.Proofs.YtcikkglcoeedlaaGreat
