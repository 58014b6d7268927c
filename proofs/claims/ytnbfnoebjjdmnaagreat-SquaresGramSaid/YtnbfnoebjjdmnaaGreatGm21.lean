/- Part 21 of the proof of squaresGram_holds. No condition. -/
import Derived.Below
import Derived.ChangeOld
import Derived.Deep.Slices
import Derived.Lib.SmallJoins
import Derived.OpenShut
import Derived.ProofKit
import Derived.ShutString
import Derived.Test.YtnbfnoebjjdmnaaGreatRows
import Derived.Test.YtnbfnoebjjdmnaaGreatGm4
set_option linter.unusedSimpArgs false
set_option linter.unusedVariables false
set_option maxRecDepth 100000
namespace Go.Proofs.YtnbfnoebjjdmnaaGreat
open Go.ChangeShapes Go.WideShapes Go.ChangeAt Go.RowKit Go.Deep
theorem own:ownKnob Tryz.prog.godebug=none:=by kernel_rfl
theorem Pf:laidOutB Tryz.prog=true:=by kernel_rfl
end Go.Proofs.YtnbfnoebjjdmnaaGreat
