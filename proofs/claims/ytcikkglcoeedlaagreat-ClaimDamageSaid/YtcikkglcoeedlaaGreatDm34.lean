/- Part 34. No condition. -/
import Derived.Test.YtcikkglcoeedlaaGreatDm20
import Derived.Test.YtcikkglcoeedlaaGreatDm32
import Derived.Test.YtcikkglcoeedlaaGreatDm33
set_option linter.all false
set_option maxRecDepth 100000
namespace Go.Proofs.YtcikkglcoeedlaaGreat
open _root_.Go.Proofs.Tryz
section
open Go.RowKit Go.Deep Go.ChangeShapes Go.WideShapes
theorem UJ{κ:IntKind}:∀{rows:List (List D)},(∀r∈rows,∃z,(Lit.int κ z).wf=true/\r=[ex (.int κ z)])->∃zs:List Int,zs.length=rows.length/\(∀z∈zs,(Lit.int κ z).wf=true)/\rows.flatten=zs.map λz=>ex (.int κ z)
 | [],_=>⟨[],rfl,λz hz=>(by cases hz),rfl⟩
 | r::rows,h=>by
  obtain ⟨z,h1,h2⟩:=h r (by simp)
  obtain ⟨zs,h3,h4,h5⟩:=UJ (rows:=rows) λr hr=>h r (by simp [hr])
  refine ⟨z::zs,by simp [h3],λu hu=>?_,by simp [h2,h5]⟩
  rcases YaL.1 hu with rfl | hu
  .exact h1
  .exact h4 u hu
theorem A0D:Opens prog 299 λS=>∃r:Nat->Int,(∀j,j<5->-128<=r j/\r j<=127)/\S=r5C r:=
 (A4t (c := 1) underlying299 ZbG ZbG (Opens.int underlying64)).mono fun S ⟨C, q, A, K⟩ => by
  obtain⟨P,Q,k,B⟩:=UJ A;rw[q]at Q
  match P,Q with
  |[a,b,c,d,e],_=>
   refine⟨λj=>[a,b,c,d,e].getD j 0,λj X=>?_,K.trans B⟩
   have:[a,b,c,d,e].getD j 0∈[a,b,c,d,e]:=by
    rw[Yaa,Yab ZdP];exact ZkJ
   exact bounds_i8 (k _ this)
theorem Rc{α:Type}[Inhabited α]{p:α->Prop}{f:α->List D}:∀{rows:List (List D)},(∀r∈rows,∃x,p x/\r=f x)->∃X:List α,(∀x∈X,p x)/\rows=X.map f
 | [],_=>⟨[],λx hx=>(by cases hx),rfl⟩
 | r::rows,h=>by
  obtain ⟨x,h1,h2⟩:=h r (by simp)
  obtain ⟨X,h3,h4⟩:=Rc (rows:=rows) λr hr=>h r (by simp [hr])
  refine ⟨x::X,λu hu=>?_,by simp [h2,h4]⟩
  rcases YaL.1 hu with rfl | hu
  .exact h1
  .exact h3 u hu
theorem A3u:Opens prog 212 λS=>∃T X,A4e X/\S=[r5D T X]:=
 (Opens.struct (Rs := [fun S => ∃ T X, A4e X ∧ S = [r5D T X]]) underlying212 (FieldsO.cons rfl ((Opens.slice (c := 5) underlying210 ZbG ZbC A0D fun S ⟨r, _, h⟩ => by rw [h]; rfl).mono fun S ⟨T, C, q, A⟩ => by
  obtain⟨X,K,Q⟩:=Rc q;exact⟨T,X,K,by rw[A,Q];rfl⟩) (FieldsO.nil ZbG))).mono λS ⟨l,q,A⟩=>by
  match l,q with
  |[d],⟨⟨T,X,f,B⟩,_⟩=>exact⟨T,X,f,by rw[A,B];rfl⟩
end
