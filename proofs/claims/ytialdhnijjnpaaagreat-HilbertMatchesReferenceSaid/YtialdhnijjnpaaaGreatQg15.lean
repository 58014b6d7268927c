/- Part 15 of the proof of hilbertMatchesReference_holds. No condition. -/
import Derived.Deep.Upon
import Derived.Test.YtialdhnijjnpaaaGreatQg14
set_option linter.unusedSimpArgs false
set_option linter.unusedVariables false
set_option maxRecDepth 100000
namespace Go.Proofs.YtialdhnijjnpaaaGreat
open Go.RowKit
def TmW(w:World)(v:Value)(t:Tm):Prop:=∃cs,v = .agg cs/\TmV w cs t
theorem TmW.ext{w w':World}{v:Value}{t:Tm}(h:TmW w v t)(he:Ext w w'):TmW w' v t:=by
 obtain ⟨cs,h1,h2⟩:=h
 exact ⟨cs,h1,h2.ext he⟩
end Go.Proofs.YtialdhnijjnpaaaGreat
