/- Part 36. No condition. -/
import Derived.Test.YtcikkglcoeedlaaGreatBk19
import Derived.Test.YtcikkglcoeedlaaGreatBk34
import Derived.Test.YtcikkglcoeedlaaGreatBk35
set_option linter.unusedSimpArgs false
set_option linter.unusedVariables false
set_option maxRecDepth 100000
namespace Go.Proofs.YtcikkglcoeedlaaGreat
open _root_.Go.Proofs.Tryz
section
open Go.RowKit Go.Deep Go.ChangeShapes Go.WideShapes
theorem TV{κ:IntKind}:∀{rows:List (List D)},(∀r∈rows,∃z,(Lit.int κ z).wf=true/\r=[ex (.int κ z)])->∃zs:List Int,zs.length=rows.length/\(∀z∈zs,(Lit.int κ z).wf=true)/\rows.flatten=zs.map λz=>ex (.int κ z)
 | [],_=>⟨[],rfl,λz hz=>(by cases hz),rfl⟩
 | r::rows,h=>by
  obtain ⟨z,h1,h2⟩:=h r (by simp)
  obtain ⟨zs,h3,h4,h5⟩:=TV (rows:=rows) λr hr=>h r (by simp [hr])
  refine ⟨z::zs,by simp [h3],λu hu=>?_,by simp [h2,h5]⟩
  rcases YaK.1 hu with rfl | hu
  .exact h1
  .exact h4 u hu
theorem A05:Opens prog 299 λR=>∃r:Nat->Int,(∀j,j<5->-128<=r j/\r j<=127)/\R=r5C r:=
 (A3L (c := 1) underlying299 ZbI ZbI (Opens.int underlying64)).mono fun R ⟨F, A, B, L⟩ => by
  obtain⟨y,S,n,E⟩:=TV B;rw[A]at S
  match y,S with
  |[a,b,c,d,e],_=>
   refine⟨λj=>[a,b,c,d,e].getD j 0,λj C=>?_,L.trans E⟩
   have:[a,b,c,d,e].getD j 0∈[a,b,c,d,e]:=by
    rw[Yab,Yac ZcY];exact Zkq
   exact bounds_i8 (n _ this)
theorem Qo{α:Type}[Inhabited α]{p:α->Prop}{f:α->List D}:∀{rows:List (List D)},(∀r∈rows,∃x,p x/\r=f x)->∃X:List α,(∀x∈X,p x)/\rows=X.map f
 | [],_=>⟨[],λx hx=>(by cases hx),rfl⟩
 | r::rows,h=>by
  obtain ⟨x,h1,h2⟩:=h r (by simp)
  obtain ⟨X,h3,h4⟩:=Qo (rows:=rows) λr hr=>h r (by simp [hr])
  refine ⟨x::X,λu hu=>?_,by simp [h2,h4]⟩
  rcases YaK.1 hu with rfl | hu
  .exact h1
  .exact h3 u hu
theorem A2Q:Opens prog 212 λR=>∃T X,A3y X/\R=[r5D T X]:=
 (Opens.struct (Rs := [fun R => ∃ T X, A3y X ∧ R = [r5D T X]]) underlying212 (FieldsO.cons rfl ((Opens.slice (c := 5) underlying210 ZbI ZbD A05 fun R ⟨r, _, h⟩ => by rw [h]; rfl).mono fun R ⟨T, C, A, B⟩ => by
  obtain⟨X,L,S⟩:=Qo A;exact⟨T,X,L,by rw[B,S];rfl⟩) (FieldsO.nil ZbI))).mono λR ⟨l,A,B⟩=>by
  match l,A with
  |[d],⟨⟨T,X,E,e⟩,_⟩=>exact⟨T,X,E,by rw[B,e];rfl⟩
end
