/- Part 36 of the proof of claimAnswers_holds. No condition. -/
import Derived.Below
import Derived.ChangeOld
import Derived.Deep.Slices
import Derived.Lib.SmallJoins
import Derived.OpenShut
import Derived.ProofKit
import Derived.ShutString
import Derived.Test.YtcikkglcoeedlaaGreatRows
import Derived.Test.YtcikkglcoeedlaaGreatCa6
set_option linter.unusedSimpArgs false
set_option linter.unusedVariables false
set_option maxRecDepth 100000
namespace Go.Proofs.YtcikkglcoeedlaaGreat
variable{n b:Nat}{t U:TypeId}
section
open Go.ChangeShapes Go.WideShapes Go.ChangeAt Go.RowKit Go.Deep
theorem own:ownKnob Tryz.prog.godebug=none:=by kernel_rfl
theorem YS:laidOutB Tryz.prog=true:=by kernel_rfl
open Go.Joins
theorem SS{P:Program}{w:World}{r:Reach}{v:Value}(J:P.underlying t=some (.array b U))(h:Value.okWide P w r n t v):∃a,v=.agg a/\a.size=P.cellsOf t:=by
 simp only[Value.okWide,J]at h;obtain⟨a,A,B,_⟩:=h;exact⟨a,A,B⟩
end
end Go.Proofs.YtcikkglcoeedlaaGreat
