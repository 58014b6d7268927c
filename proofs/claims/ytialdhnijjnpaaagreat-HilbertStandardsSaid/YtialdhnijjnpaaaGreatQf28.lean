/- Part 28 of the proof of hilbertStandards_holds. No condition. -/
import Derived.Below
import Derived.ChangeOld
import Derived.Deep.Slices
import Derived.Lib.SmallJoins
import Derived.OpenShut
import Derived.ProofKit
import Derived.ShutString
import Derived.Test.YtialdhnijjnpaaaGreatRows
import Derived.Test.YtialdhnijjnpaaaGreatQf2
set_option linter.unusedSimpArgs false
set_option linter.unusedVariables false
set_option maxRecDepth 100000
namespace Go.Proofs.YtialdhnijjnpaaaGreat
open Go.ChangeShapes Go.WideShapes Go.ChangeAt Go.RowKit Go.Deep
theorem own : ownKnob Tryz.prog.godebug = none:=by kernel_rfl
theorem Rr : laidOutB Tryz.prog = true:=by kernel_rfl
open Go.Joins
theorem MB {P : Program} {w:World} {r:Reach} {b0:Nat} {t:TypeId} {v:Value} {n:Nat} {e:TypeId} (ht:P.underlying t = some (.array n e)) (h:Value.okWide P w r b0 t v):∃ cs,v = .agg cs∧cs.size = P.cellsOf t:=by
 simp only [Value.okWide,ht] at h
 obtain ⟨cs,h1,h2,_⟩:=h
 exact ⟨cs,h1,h2⟩
end Go.Proofs.YtialdhnijjnpaaaGreat
