/- Part 35. No condition. -/
import Derived.Below
import Derived.ChangeOld
import Derived.Deep.Slices
import Derived.Lib.SmallJoins
import Derived.OpenShut
import Derived.ProofKit
import Derived.ShutString
import Derived.Test.YtcikkglcoeedlaaGreatRows
import Derived.Test.YtcikkglcoeedlaaGreatDf4
set_option linter.unusedSimpArgs false
set_option linter.unusedVariables false
set_option maxRecDepth 100000
namespace Go.Proofs.YtcikkglcoeedlaaGreat
open _root_.Go.Proofs.Tryz
variable{n b:Nat}{t U:TypeId}
section
open Go.ChangeShapes Go.WideShapes Go.ChangeAt Go.RowKit Go.Deep
theorem own:ownKnob Tryz.prog.godebug=none:=by kernel_rfl
theorem A2f:laidOutB prog=true:=by kernel_rfl
open Go.Joins
theorem Nv{P:Program}{w:World}{r:Reach}{v:Value}(L:P.underlying t=some (.array b U))(h:Value.okWide P w r n t v):∃f,v=.agg f/\f.size=P.cellsOf t:=by
 simp only[Value.okWide,L]at h;obtain⟨f,q,A,_⟩:=h;exact⟨f,q,A⟩
end
