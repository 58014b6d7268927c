/- Part 22 of the proof of polynomialLimits_holds. No condition. -/
import Derived.Test.YteicdddphdomkaaGreatLi18
import Derived.Test.YteicdddphdomkaaGreatLi19
import Derived.Test.YteicdddphdomkaaGreatLi20
import Derived.Test.YteicdddphdomkaaGreatLi21
set_option linter.unusedSimpArgs false
set_option linter.unusedVariables false
set_option maxRecDepth 100000
namespace Go.Proofs.YteicdddphdomkaaGreat
open Go.RowKit Go.Deep Go.ChangeShapes Go.WideShapes
theorem ones_flat {κ : IntKind}:∀ {rows:List (List D)},(∀ r∈rows,∃ z,(Lit.int κ z).wf = true∧r = [ex (.int κ z)])→∃ zs:List Int,zs.length = rows.length∧(∀ z∈zs,(Lit.int κ z).wf = true)∧rows.flatten = zs.map fun z=>ex (.int κ z)
 | [],_=>⟨[],rfl,fun z hz=>(by cases hz),rfl⟩
 | r :: rows,h=>by
  obtain ⟨z,h1,h2⟩:=h r (by simp)
  obtain ⟨zs,h3,h4,h5⟩:=ones_flat (rows:=rows) fun r hr=>h r (by simp [hr])
  refine ⟨z :: zs,by simp [h3],fun u hu=>?_,by simp [h2,h5]⟩
  rcases List.mem_cons.1 hu with rfl | hu
  ·exact h1
  ·exact h4 u hu
theorem opens_ints {P : Program} {t I:TypeId} {κ:IntKind} {n:Nat} (ht:P.underlying t = some (.array n I)) (hI:P.underlying I = some (.int κ)) (hc:P.cellsOf I = 1) (hn:P.cellsOf t = n*1):Opens P t fun ds=>∃ zs:List Int,zs.length = n∧(∀ z∈zs,(Lit.int κ z).wf = true)∧ds = zs.map fun z=>ex (.int κ z) :=
 (Opens.arr (c:=1) ht hc hn (Opens.int hI)).mono fun ds ⟨rows,h1,h2,h3⟩=>by
  obtain ⟨zs,h4,h5,h6⟩:=ones_flat h2
  exact ⟨zs,h4.trans h1,h5,h3.trans h6⟩
theorem opens_five : Opens Tryz.prog 114 fun ds=>∃ r:Nat→Int,(∀ j,j<5→-128≤r j∧r j≤127)∧ds = r5C r :=
 (Opens.arr (c := 1) Tryz.underlying114 (by kernel_rfl) (by kernel_rfl) (Opens.int Tryz.underlying48)).mono fun ds ⟨rows, h1, h2, h3⟩ => by
  obtain ⟨zs,h4,h5,h6⟩:=ones_flat h2
  rw [h1] at h4
  match zs,h4 with
  | [a,b,c,d,e],_ =>
   refine ⟨fun j=>[a,b,c,d,e].getD j 0,fun j hj=>?_,h3.trans h6⟩
   have:[a,b,c,d,e].getD j 0∈[a,b,c,d,e]:=by
    rw [List.getD_eq_getElem?_getD,List.getElem?_eq_getElem (by simpa using hj)]
    exact List.getElem_mem _
   exact bounds_i8 (h5 _ this)
theorem rows_of {α : Type} [Inhabited α] {p:α→Prop} {f:α→List D}:∀ {rows:List (List D)},(∀ r∈rows,∃ x,p x∧r = f x)→∃ X:List α,(∀ x∈X,p x)∧rows = X.map f
 | [],_=>⟨[],fun x hx=>(by cases hx),rfl⟩
 | r :: rows,h=>by
  obtain ⟨x,h1,h2⟩:=h r (by simp)
  obtain ⟨X,h3,h4⟩:=rows_of (rows:=rows) fun r hr=>h r (by simp [hr])
  refine ⟨x :: X,fun u hu=>?_,by simp [h2,h4]⟩
  rcases List.mem_cons.1 hu with rfl | hu
  ·exact h1
  ·exact h3 u hu
theorem opens_raw : Opens Tryz.prog 37 fun ds=>∃ T X,Raw8 X∧ds = [r5D T X] :=
 (Opens.struct (Rs := [fun ds => ∃ T X, Raw8 X ∧ ds = [r5D T X]]) Tryz.underlying37 (FieldsO.cons rfl ((Opens.slice (c := 5) Tryz.underlying35 (by kernel_rfl) (by omega) opens_five fun ds ⟨r, _, h⟩ => by rw [h]; rfl).mono fun ds ⟨T, rows, h1, h2⟩ => by
  obtain ⟨X,h3,h4⟩:=rows_of h1
  exact ⟨T,X,h3,by rw [h2,h4];rfl⟩) (FieldsO.nil (by kernel_rfl)))).mono fun ds ⟨l,h1,h2⟩=>by
  match l,h1 with
  | [d],⟨⟨T,X,hX,hd⟩,_⟩=>exact ⟨T,X,hX,by rw [h2,hd];rfl⟩
end Go.Proofs.YteicdddphdomkaaGreat
namespace Go.Proofs.YteicdddphdomkaaGreat
open Go.ChangeShapes Go.WideShapes Go.ChangeAt Go.RowKit Go.Deep Go.Joins
theorem polynomialLimits_lifted (os : Os) (started:os.Started) (H:Type) (enc:TypeId × Value→H) :
  ReturnsInHanded {} Tryz.checked os 11 .any (Rows.polynomialLimitsSpec.pre6 enc Tryz.prog Tryz.f11 Rows.polynomialLimitsRow.domain false) (Rows.polynomialLimitsSpec.post enc Tryz.prog Tryz.f11 false true false false):=by
 refine returnsInHanded_of_change (C := Tryz.checked) own started (by kernel_rfl) Tryz.func11
  (ChangeSpec.witness6 (enc:=enc) (C:=Tryz.checked) false ⟨#[],#[.agg #[.slice none 0 0],.agg #[.int .u8 0,.int .u8 0],.int .i64 0],[]⟩ 8 (by kernel_rfl) (by kernel_rfl) (by kernel_rfl) (by kernel_rfl)) ?_
 intro W base args ds gs before hval0 hW hcnd _
 have hval:∀ (j:Nat) t v,Tryz.f11.params[j]? = some t→args[j]? = some v→Value.okWide Tryz.prog W .any base t v:=hval0
 have hW':=hW
 obtain ⟨p,q,hA0,hV,rfl,hfz,hnd⟩:=hW
 have hA:DataW.TrodAll enc Tryz.prog W 0 (fun _=>true) true Tryz.f11.params.toList args.toList ds p:=hA0
 rw [Tryz.params11] at hA hval
 obtain ⟨v0,vs0,d0,ds0,p0,q0,hargs,rfl,rfl,h0,r0⟩:=trodAll_cons hA
 obtain ⟨v1,vs1,d1,ds1,p1,q1,rfl,rfl,rfl,h1,r1⟩:=trodAll_cons r0
 obtain ⟨v2,vs2,d2,ds2,p2,q2,rfl,rfl,rfl,h2,r2⟩:=trodAll_cons r1
 obtain ⟨rfl,rfl,rfl⟩:=trodAll_nil r2
 obtain rfl:args = #[v0,v1,v2]:=by cases args;simp_all
 obtain ⟨rfl,rfl⟩:=trodVars_none hV
 have k0:=h0
 have lt0:∀ x∈p0,x.block<W.heap.size:=by obtain ⟨m,hm⟩:=k0;exact DataW.trod_lt m _ _ _ hm
 have k1:=h1
 have lt1:∀ x∈p1,x.block<W.heap.size:=by obtain ⟨m,hm⟩:=k1;exact DataW.trod_lt m _ _ _ hm
 have k2:=h2
 have lt2:∀ x∈p2,x.block<W.heap.size:=by obtain ⟨m,hm⟩:=k2;exact DataW.trod_lt m _ _ _ hm
 obtain ⟨T0,X0,hX0,e0⟩:∃ T X,Raw8 X∧(agD [r5D T X]).rel (GS.all W) v0:=by
  obtain ⟨cs,rfl,_⟩:=okWide_struct Tryz.underlying37 (hval 0 37 v0 rfl rfl)
  obtain ⟨fuel,hf⟩:=h0
  obtain ⟨ds,⟨T,X,hX,rfl⟩,hg⟩:=opens_raw _ _ _ _ _ _ _ _ _ hf
  exact ⟨T,X,hX,hg.agg rfl fun b k h=>h⟩
 obtain ⟨x1,hx1,e1⟩:∃ x:Nat→Int,(∀ j,j<2→(Lit.int .u8 (x j)).wf = true)∧(agD [ex (.int .u8 (x 0)),ex (.int .u8 (x 1))]).rel (GS.all W) v1:=by
  obtain ⟨cs,rfl,_⟩:=okWide_array Tryz.underlying86 (hval 1 86 v1 rfl rfl)
  obtain ⟨fuel,hf⟩:=h1
  obtain ⟨ds,⟨zs,hz,hw,rfl⟩,hg⟩:=opens_ints Tryz.underlying86 Tryz.underlying5 (by kernel_rfl) (by kernel_rfl) _ _ _ _ _ _ _ _ _ hf
  match zs,hz with
  | [z0,z1],_=>exact ⟨fun j=>[z0,z1].getD j 0,fun j hj=>hw _ (show [z0,z1].getD j 0∈[z0,z1] from by rw [List.getD_eq_getElem?_getD,List.getElem?_eq_getElem (by simpa using hj)];exact List.getElem_mem _),hg.agg rfl fun b k h=>h⟩
 obtain ⟨n2,rfl,hn2,_,hw2⟩:=open_int Tryz.underlying3 (hval 2 3 v2 rfl rfl) h2
 have e2:(ex (.int .i64 n2)).rel (GS.all W) (.int .i64 n2):=rfl
 clear hA0 hval0
 refine ((limits_law T0 X0 x1 n2 hX0 (fun j hj=>bounds_u8 (hx1 j hj)) (bounds_i64 hw2)).2 (GS.all W) [v0,v1,(.int .i64 n2)] (GS.all_ok W) rfl (fun k hk=>?_)).mono fun e W' ⟨v,he,s',hw,hl,hv⟩=>?_
 ·match k,hk with
  | 0,_=>exact e0
  | 1,_=>exact e1
  | 2,_=>exact e2
 obtain rfl:v = .bool true:=hv
 subst he
 have bel:Below W.heap.size W W':=hw ▸ hl.ext
 exact ⟨_,rfl,_,_,_,[],_,[],hW',trodAll_mk1 (shut_bool Tryz.underlying4 _),(trodAll_cons_mk (Below.trod laidOut (by kernel_rfl) (of_decide_eq_true (by kernel_rfl)) k0 bel lt0) (trodAll_cons_mk (Below.trod laidOut (by kernel_rfl) (of_decide_eq_true (by kernel_rfl)) k1 bel lt1) (trodAll_cons_mk (Below.trod laidOut (by kernel_rfl) (of_decide_eq_true (by kernel_rfl)) k2 bel lt2) trodAll_mk0))),rfl,bel.frame _,fun h=>by cases h⟩
theorem polynomialLimits_over : Rows.polynomialLimitsRow.holds Tryz.pinned (OpenSpec.ofChange Rows.polynomialLimitsSpec) :=
 OpenClaim.holds_of_wide 11 Tryz.f11 rfl rfl rfl rfl rfl rfl rfl ⟨rfl, rfl, rfl, rfl, rfl⟩ rfl rfl rfl rfl rfl (by kernel_rfl) Tryz.func11 (by kernel_rfl)
  (of_decide_eq_true (by kernel_rfl)) (by unfold Func.isWrapper;first | (rw [if_pos (by decide +kernel)];kernel_rfl) | (rw [if_neg (by decide +kernel)];exact ⟨rfl,rfl⟩))
  (fun os started H enc _=>polynomialLimits_lifted os started H enc)
theorem polynomialLimits_holds : Rows.PolynomialLimitsSaid:=polynomialLimits_over
#print axioms polynomialLimits_holds
end Go.Proofs.YteicdddphdomkaaGreat
