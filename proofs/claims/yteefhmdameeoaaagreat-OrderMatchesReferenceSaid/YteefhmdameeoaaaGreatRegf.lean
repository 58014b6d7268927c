/-
  The region rule once more, for a region that allocates variables: it also tells that their blocks differ.
-/
import Derived.Test.YteefhmdameeoaaaGreatP1
set_option linter.unusedSimpArgs false
set_option linter.unusedVariables false
namespace Go.Proofs.YteefhmdameeoaaaGreat
namespace RegF
open Go.RowKit

section
variable {P : Program} {L : List Oper} {sh : List Shape} {Rs : List Fact} {a : Act} {w0 : World}

end

/-! ### The rule with one fact for each result -/

end RegF
end Go.Proofs.YteefhmdameeoaaaGreat
