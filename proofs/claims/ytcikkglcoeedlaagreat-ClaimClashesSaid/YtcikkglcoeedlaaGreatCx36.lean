/- Part 36 of the proof of claimClashes_holds. No condition. -/
import Derived.Test.YtcikkglcoeedlaaGreatCx20
import Derived.Test.YtcikkglcoeedlaaGreatCx34
import Derived.Test.YtcikkglcoeedlaaGreatCx35
set_option linter.unusedSimpArgs false
set_option linter.unusedVariables false
set_option maxRecDepth 100000
namespace Go.Proofs.YtcikkglcoeedlaaGreat
section
open Go.RowKit Go.Deep Go.ChangeShapes Go.WideShapes
theorem QR{κ:IntKind}:∀{rows:List (List D)},(∀r∈rows,∃z,(Lit.int κ z).wf=true/\r=[ex (.int κ z)])->∃zs:List Int,zs.length=rows.length/\(∀z∈zs,(Lit.int κ z).wf=true)/\rows.flatten=zs.map λz=>ex (.int κ z)
 | [],_=>⟨[],rfl,λz hz=>(by cases hz),rfl⟩
 | r::rows,h=>by
  obtain ⟨z,h1,h2⟩:=h r (by simp)
  obtain ⟨zs,h3,h4,h5⟩:=QR (rows:=rows) λr hr=>h r (by simp [hr])
  refine ⟨z::zs,by simp [h3],λu hu=>?_,by simp [h2,h5]⟩
  rcases List.mem_cons.1 hu with rfl | hu
  .exact h1
  .exact h4 u hu
theorem VA:Opens Tryz.prog 299 λR=>∃r:Nat->Int,(∀j,j<5->-128<=r j/\r j<=127)/\R=r5C r:=
 (Rz (c := 1) Tryz.underlying299 Zbz Zbz (Opens.int Tryz.underlying64)).mono fun R ⟨P, u, A, I⟩ => by
  obtain⟨T,V,m,y⟩:=QR A;rw[u]at V
  match T,V with
  |[a,b,c,d,e],_=>
   refine⟨λj=>[a,b,c,d,e].getD j 0,λj i=>?_,I.trans y⟩
   have:[a,b,c,d,e].getD j 0∈[a,b,c,d,e]:=by
    rw[List.getD_eq_getElem?_getD,List.getElem?_eq_getElem (by simpa using i)];exact List.getElem_mem _
   exact bounds_i8 (m _ this)
theorem NB{α:Type}[Inhabited α]{p:α->Prop}{f:α->List D}:∀{rows:List (List D)},(∀r∈rows,∃x,p x/\r=f x)->∃X:List α,(∀x∈X,p x)/\rows=X.map f
 | [],_=>⟨[],λx hx=>(by cases hx),rfl⟩
 | r::rows,h=>by
  obtain ⟨x,h1,h2⟩:=h r (by simp)
  obtain ⟨X,h3,h4⟩:=NB (rows:=rows) λr hr=>h r (by simp [hr])
  refine ⟨x::X,λu hu=>?_,by simp [h2,h4]⟩
  rcases List.mem_cons.1 hu with rfl | hu
  .exact h1
  .exact h3 u hu
theorem YR:Opens Tryz.prog 212 λR=>∃T X,ZE X/\R=[r5D T X]:=
 (Opens.struct (Rs := [fun R => ∃ T X, ZE X ∧ R = [r5D T X]]) Tryz.underlying212 (FieldsO.cons rfl ((Opens.slice (c := 5) Tryz.underlying210 Zbz Zbx VA fun R ⟨r, _, h⟩ => by rw [h]; rfl).mono fun R ⟨T, P, u, A⟩ => by
  obtain⟨X,I,V⟩:=NB u;exact⟨T,X,I,by rw[A,V];rfl⟩) (FieldsO.nil Zbz))).mono λR ⟨l,u,A⟩=>by
  match l,u with
  |[d],⟨⟨T,X,H,W⟩,_⟩=>exact⟨T,X,H,by rw[A,W];rfl⟩
end
end Go.Proofs.YtcikkglcoeedlaaGreat
