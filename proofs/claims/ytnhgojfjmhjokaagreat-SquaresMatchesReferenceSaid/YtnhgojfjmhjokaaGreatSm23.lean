/- Part 23 of the proof of squaresMatchesReference_holds. No condition. -/
import Derived.Test.YtnhgojfjmhjokaaGreatSm18
import Derived.Test.YtnhgojfjmhjokaaGreatSm21
import Derived.Test.YtnhgojfjmhjokaaGreatSm22
set_option linter.unusedSimpArgs false
set_option linter.unusedVariables false
set_option maxRecDepth 100000
namespace Go.Proofs.YtnhgojfjmhjokaaGreat
open Go.RowKit Go.Deep Go.ChangeShapes Go.WideShapes
theorem JP {κ : IntKind}:∀ {rows:List (List D)},(∀ r∈rows,∃ z,(Lit.int κ z).wf = true∧r = [ex (.int κ z)])→∃ zs:List Int,zs.length = rows.length∧(∀ z∈zs,(Lit.int κ z).wf = true)∧rows.flatten = zs.map fun z=>ex (.int κ z)
 | [],_=>⟨[],rfl,fun z hz=>(by cases hz),rfl⟩
 | r :: rows,h=>by
  obtain ⟨z,h1,h2⟩:=h r (by simp)
  obtain ⟨zs,h3,h4,h5⟩:=JP (rows:=rows) fun r hr=>h r (by simp [hr])
  refine ⟨z :: zs,by simp [h3],fun u hu=>?_,by simp [h2,h5]⟩
  rcases List.mem_cons.1 hu with rfl | hu
  ·exact h1
  ·exact h4 u hu
theorem RD {P : Program} {t I:TypeId} {κ:IntKind} {n:Nat} (ht:P.underlying t = some (.array n I)) (hI:P.underlying I = some (.int κ)) (hc:P.cellsOf I = 1) (hn:P.cellsOf t = n*1):Opens P t fun ds=>∃ zs:List Int,zs.length = n∧(∀ z∈zs,(Lit.int κ z).wf = true)∧ds = zs.map fun z=>ex (.int κ z) :=
 (NG (c:=1) ht hc hn (Opens.int hI)).mono fun ds ⟨rows,h1,h2,h3⟩=>by
  obtain ⟨zs,h4,h5,h6⟩:=JP h2
  exact ⟨zs,h4.trans h1,h5,h3.trans h6⟩
theorem RE : Opens Tryz.prog 127 fun ds=>∃ r:Nat→Int,(∀ j,j<5→-128≤r j∧r j≤127)∧ds = r5C r :=
 (NG (c := 1) Tryz.underlying127 (by kernel_rfl) (by kernel_rfl) (Opens.int Tryz.underlying75)).mono fun ds ⟨rows, h1, h2, h3⟩ => by
  obtain ⟨zs,h4,h5,h6⟩:=JP h2
  rw [h1] at h4
  match zs,h4 with
  | [a,b,c,d,e],_ =>
   refine ⟨fun j=>[a,b,c,d,e].getD j 0,fun j hj=>?_,h3.trans h6⟩
   have:[a,b,c,d,e].getD j 0∈[a,b,c,d,e]:=by
    rw [List.getD_eq_getElem?_getD,List.getElem?_eq_getElem (by simpa using hj)]
    exact List.getElem_mem _
   exact bounds_i8 (h5 _ this)
theorem KM {α : Type} [Inhabited α] {p:α→Prop} {f:α→List D}:∀ {rows:List (List D)},(∀ r∈rows,∃ x,p x∧r = f x)→∃ X:List α,(∀ x∈X,p x)∧rows = X.map f
 | [],_=>⟨[],fun x hx=>(by cases hx),rfl⟩
 | r :: rows,h=>by
  obtain ⟨x,h1,h2⟩:=h r (by simp)
  obtain ⟨X,h3,h4⟩:=KM (rows:=rows) fun r hr=>h r (by simp [hr])
  refine ⟨x :: X,fun u hu=>?_,by simp [h2,h4]⟩
  rcases List.mem_cons.1 hu with rfl | hu
  ·exact h1
  ·exact h3 u hu
theorem Up : Opens Tryz.prog 88 fun ds=>∃ T X,XF X∧ds = [r5D T X] :=
 (Opens.struct (Rs := [fun ds => ∃ T X, XF X ∧ ds = [r5D T X]]) Tryz.underlying88 (FieldsO.cons rfl ((Opens.slice (c := 5) Tryz.underlying86 (by kernel_rfl) (by omega) RE fun ds ⟨r, _, h⟩ => by rw [h]; rfl).mono fun ds ⟨T, rows, h1, h2⟩ => by
  obtain ⟨X,h3,h4⟩:=KM h1
  exact ⟨T,X,h3,by rw [h2,h4];rfl⟩) (FieldsO.nil (by kernel_rfl)))).mono fun ds ⟨l,h1,h2⟩=>by
  match l,h1 with
  | [d],⟨⟨T,X,hX,hd⟩,_⟩=>exact ⟨T,X,hX,by rw [h2,hd];rfl⟩
end Go.Proofs.YtnhgojfjmhjokaaGreat
