/- Part 36. No condition. -/
import Derived.Test.YtcikkglcoeedlaaGreatDf19
import Derived.Test.YtcikkglcoeedlaaGreatDf34
import Derived.Test.YtcikkglcoeedlaaGreatDf35
set_option linter.unusedSimpArgs false
set_option linter.unusedVariables false
set_option maxRecDepth 100000
namespace Go.Proofs.YtcikkglcoeedlaaGreat
open _root_.Go.Proofs.Tryz
section
open Go.RowKit Go.Deep Go.ChangeShapes Go.WideShapes
theorem OQ{κ:IntKind}:∀{rows:List (List D)},(∀r∈rows,∃z,(Lit.int κ z).wf=true/\r=[ex (.int κ z)])->∃zs:List Int,zs.length=rows.length/\(∀z∈zs,(Lit.int κ z).wf=true)/\rows.flatten=zs.map λz=>ex (.int κ z)
 | [],_=>⟨[],rfl,λz hz=>(by cases hz),rfl⟩
 | r::rows,h=>by
  obtain ⟨z,h1,h2⟩:=h r (by simp)
  obtain ⟨zs,h3,h4,h5⟩:=OQ (rows:=rows) λr hr=>h r (by simp [hr])
  refine ⟨z::zs,by simp [h3],λu hu=>?_,by simp [h2,h5]⟩
  rcases YaM.1 hu with rfl | hu
  .exact h1
  .exact h4 u hu
theorem A0e{P:Program}{t I:TypeId}{G:IntKind}{n:Nat}(L:P.underlying t=some (.array n I))(W:P.underlying I=some (.int G))(F:P.cellsOf I=1)(h:P.cellsOf t=n*1):Opens P t λS=>∃m:List Int,m.length=n/\(∀z∈m,(Lit.int G z).wf=true)/\S=m.map λz=>ex (.int G z):=
 (PD (c:=1) L F h (Opens.int W)).mono λS ⟨E,q,A,K⟩=>by
  obtain⟨m,Y,B,C⟩:=OQ A;exact⟨m,Y.trans q,B,K.trans C⟩
theorem A0f:Opens prog 299 λS=>∃r:Nat->Int,(∀j,j<5->-128<=r j/\r j<=127)/\S=r5C r:=
 (PD (c := 1) underlying299 ZbK ZbK (Opens.int underlying64)).mono fun S ⟨C, q, A, K⟩ => by
  obtain⟨m,Y,n,B⟩:=OQ A;rw[q]at Y
  match m,Y with
  |[a,b,c,d,e],_=>
   refine⟨λj=>[a,b,c,d,e].getD j 0,λj W=>?_,K.trans B⟩
   have:[a,b,c,d,e].getD j 0∈[a,b,c,d,e]:=by
    rw[Yab,Yac Zez];exact ZkC
   exact bounds_i8 (n _ this)
theorem QG{α:Type}[Inhabited α]{p:α->Prop}{f:α->List D}:∀{rows:List (List D)},(∀r∈rows,∃x,p x/\r=f x)->∃X:List α,(∀x∈X,p x)/\rows=X.map f
 | [],_=>⟨[],λx hx=>(by cases hx),rfl⟩
 | r::rows,h=>by
  obtain ⟨x,h1,h2⟩:=h r (by simp)
  obtain ⟨X,h3,h4⟩:=QG (rows:=rows) λr hr=>h r (by simp [hr])
  refine ⟨x::X,λu hu=>?_,by simp [h2,h4]⟩
  rcases YaM.1 hu with rfl | hu
  .exact h1
  .exact h3 u hu
theorem A35:Opens prog 212 λS=>∃T X,A3M X/\S=[r5D T X]:=
 (Opens.struct (Rs := [fun S => ∃ T X, A3M X ∧ S = [r5D T X]]) underlying212 (FieldsO.cons rfl ((Opens.slice (c := 5) underlying210 ZbK ZbG A0f fun S ⟨r, _, h⟩ => by rw [h]; rfl).mono fun S ⟨T, B, q, A⟩ => by
  obtain⟨X,K,Y⟩:=QG q;exact⟨T,X,K,by rw[A,Y];rfl⟩) (FieldsO.nil ZbK))).mono λS ⟨l,q,A⟩=>by
  match l,q with
  |[d],⟨⟨T,X,W,e⟩,_⟩=>exact⟨T,X,W,by rw[A,e];rfl⟩
end
