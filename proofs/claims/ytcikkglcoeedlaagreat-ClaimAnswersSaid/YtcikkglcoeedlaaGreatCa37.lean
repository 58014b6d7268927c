/- Part 37 of the proof of claimAnswers_holds. No condition. -/
import Derived.Test.YtcikkglcoeedlaaGreatCa22
import Derived.Test.YtcikkglcoeedlaaGreatCa35
import Derived.Test.YtcikkglcoeedlaaGreatCa36
set_option linter.unusedSimpArgs false
set_option linter.unusedVariables false
set_option maxRecDepth 100000
namespace Go.Proofs.YtcikkglcoeedlaaGreat
section
open Go.RowKit Go.Deep Go.ChangeShapes Go.WideShapes
theorem RG{κ:IntKind}:∀{rows:List (List D)},(∀r∈rows,∃z,(Lit.int κ z).wf=true/\r=[ex (.int κ z)])->∃zs:List Int,zs.length=rows.length/\(∀z∈zs,(Lit.int κ z).wf=true)/\rows.flatten=zs.map λz=>ex (.int κ z)
 | [],_=>⟨[],rfl,λz hz=>(by cases hz),rfl⟩
 | r::rows,h=>by
  obtain ⟨z,h1,h2⟩:=h r (by simp)
  obtain ⟨zs,h3,h4,h5⟩:=RG (rows:=rows) λr hr=>h r (by simp [hr])
  refine ⟨z::zs,by simp [h3],λu hu=>?_,by simp [h2,h5]⟩
  rcases List.mem_cons.1 hu with rfl | hu
  .exact h1
  .exact h4 u hu
theorem WH:Opens Tryz.prog 299 λR=>∃r:Nat->Int,(∀j,j<5->-128<=r j/\r j<=127)/\R=r5C r:=
 (Sn (c := 1) Tryz.underlying299 ZbM ZbM (Opens.int Tryz.underlying64)).mono fun R ⟨y, A, B, L⟩ => by
  obtain⟨E,V,m,z⟩:=RG B;rw[A]at V
  match E,V with
  |[a,b,c,d,e],_=>
   refine⟨λj=>[a,b,c,d,e].getD j 0,λj C=>?_,L.trans z⟩
   have:[a,b,c,d,e].getD j 0∈[a,b,c,d,e]:=by
    rw[List.getD_eq_getElem?_getD,List.getElem?_eq_getElem ZcF];exact List.getElem_mem _
   exact bounds_i8 (m _ this)
theorem Oj{α:Type}[Inhabited α]{p:α->Prop}{f:α->List D}:∀{rows:List (List D)},(∀r∈rows,∃x,p x/\r=f x)->∃X:List α,(∀x∈X,p x)/\rows=X.map f
 | [],_=>⟨[],λx hx=>(by cases hx),rfl⟩
 | r::rows,h=>by
  obtain ⟨x,h1,h2⟩:=h r (by simp)
  obtain ⟨X,h3,h4⟩:=Oj (rows:=rows) λr hr=>h r (by simp [hr])
  refine ⟨x::X,λu hu=>?_,by simp [h2,h4]⟩
  rcases List.mem_cons.1 hu with rfl | hu
  .exact h1
  .exact h3 u hu
theorem ZO:Opens Tryz.prog 212 λR=>∃T X,A0u X/\R=[r5D T X]:=
 (Opens.struct (Rs := [fun R => ∃ T X, A0u X ∧ R = [r5D T X]]) Tryz.underlying212 (FieldsO.cons rfl ((Opens.slice (c := 5) Tryz.underlying210 ZbM ZbK WH fun R ⟨r, _, h⟩ => by rw [h]; rfl).mono fun R ⟨T, y, A, B⟩ => by
  obtain⟨X,L,V⟩:=Oj A;exact⟨T,X,L,by rw[B,V];rfl⟩) (FieldsO.nil ZbM))).mono λR ⟨l,A,B⟩=>by
  match l,A with
  |[d],⟨⟨T,X,C,Z⟩,_⟩=>exact⟨T,X,C,by rw[B,Z];rfl⟩
end
end Go.Proofs.YtcikkglcoeedlaaGreat
