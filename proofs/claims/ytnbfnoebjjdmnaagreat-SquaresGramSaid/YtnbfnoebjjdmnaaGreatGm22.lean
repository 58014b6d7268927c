/- Part 22 of the proof of squaresGram_holds. No condition. -/
import Derived.Test.YtnbfnoebjjdmnaaGreatGm18
import Derived.Test.YtnbfnoebjjdmnaaGreatGm20
import Derived.Test.YtnbfnoebjjdmnaaGreatGm21
set_option linter.unusedSimpArgs false
set_option linter.unusedVariables false
set_option maxRecDepth 100000
namespace Go.Proofs.YtnbfnoebjjdmnaaGreat
open Go.RowKit Go.Deep Go.ChangeShapes Go.WideShapes
theorem Uh{α:Type}[Inhabited α]{p:α->Prop}{f:α->List D}:∀{rows:List (List D)},(∀r∈rows,∃x,p x/\r=f x)->∃X:List α,(∀x∈X,p x)/\rows=X.map f
 | [],_=>⟨[],λx hx=>(by cases hx),rfl⟩
 | r::rows,h=>by
  obtain ⟨x,h1,h2⟩:=h r (by simp)
  obtain ⟨X,h3,h4⟩:=Uh (rows:=rows) λr hr=>h r (by simp [hr])
  refine ⟨x::X,λu hu=>?_,by simp [h2,h4]⟩
  rcases List.mem_cons.1 hu with rfl | hu
  .exact h1
  .exact h3 u hu
end Go.Proofs.YtnbfnoebjjdmnaaGreat
