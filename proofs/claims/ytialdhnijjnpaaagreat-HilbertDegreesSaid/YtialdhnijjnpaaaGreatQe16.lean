/- Part 16 of the proof of hilbertDegrees_holds. No condition. -/
import Derived.Test.YtialdhnijjnpaaaGreatQe2
import Derived.Test.YtialdhnijjnpaaaGreatQe8
set_option linter.unusedSimpArgs false
set_option linter.unusedVariables false
set_option maxRecDepth 100000
namespace Go.Proofs.YtialdhnijjnpaaaGreat
open Go.RowKit
def OwnV (base : Nat) (v:Value) (w:World) (R:List (Nat→Int)):Prop:=∃ A c,v = .slice A R.length c∧OwnRows 54 base w (.slice A R.length c) R
theorem OwnV.ext {base : Nat} {v:Value} {w w':World} {R:List (Nat→Int)} (h:OwnV base v w R) (he:Ext w w'):OwnV base v w' R:=by
 obtain ⟨A,c,h1,h2⟩:=h
 exact ⟨A,c,h1,h2.ext he⟩
end Go.Proofs.YtialdhnijjnpaaaGreat
