/- Part 35 of the proof of claimClashes_holds. No condition. -/
import Derived.Below
import Derived.ChangeOld
import Derived.Deep.Slices
import Derived.Lib.SmallJoins
import Derived.OpenShut
import Derived.ProofKit
import Derived.ShutString
import Derived.Test.YtcikkglcoeedlaaGreatRows
import Derived.Test.YtcikkglcoeedlaaGreatCx5
set_option linter.unusedSimpArgs false
set_option linter.unusedVariables false
set_option maxRecDepth 100000
namespace Go.Proofs.YtcikkglcoeedlaaGreat
variable{n b:Nat}{t U:TypeId}
section
open Go.ChangeShapes Go.WideShapes Go.ChangeAt Go.RowKit Go.Deep
theorem own:ownKnob Tryz.prog.godebug=none:=by kernel_rfl
theorem XN:laidOutB Tryz.prog=true:=by kernel_rfl
open Go.Joins
theorem Sh{P:Program}{w:World}{r:Reach}{v:Value}(M:P.underlying t=some (.array b U))(h:Value.okWide P w r n t v):∃Z,v=.agg Z/\Z.size=P.cellsOf t:=by
 simp only[Value.okWide,M]at h;obtain⟨Z,u,A,_⟩:=h;exact⟨Z,u,A⟩
end
end Go.Proofs.YtcikkglcoeedlaaGreat
