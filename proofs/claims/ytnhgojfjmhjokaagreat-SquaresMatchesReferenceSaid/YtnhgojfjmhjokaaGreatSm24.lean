/- Part 24 of the proof of squaresMatchesReference_holds. No condition. -/
import Derived.Test.YtnhgojfjmhjokaaGreatSm19
import Derived.Test.YtnhgojfjmhjokaaGreatSm20
import Derived.Test.YtnhgojfjmhjokaaGreatSm23
set_option linter.unusedSimpArgs false
set_option linter.unusedVariables false
set_option maxRecDepth 100000
namespace Go.Proofs.YtnhgojfjmhjokaaGreat
open Go.RowKit Go.Deep Go.ChangeShapes Go.WideShapes
theorem WL : Opens Tryz.prog 77 fun ds=>∃ x:Qr,x.Ok∧ds = qrC x :=
 (Opens.struct (Rs := [fun ds => ∃ z, (Lit.int .i8 z).wf = true ∧ ds = [ex (.int .i8 z)], fun ds => ∃ z, (Lit.int .i8 z).wf = true ∧ ds = [ex (.int .i8 z)], fun ds => ∃ z, (Lit.int .u8 z).wf = true ∧ ds = [ex (.int .u8 z)]]) Tryz.underlying77 (FieldsO.cons rfl (Opens.int Tryz.underlying75) (FieldsO.cons rfl (Opens.int Tryz.underlying75) (FieldsO.cons rfl (Opens.int Tryz.underlying5) (FieldsO.nil (by kernel_rfl)))))).mono fun ds ⟨l, h1, h2⟩ => by
  match l,h1 with
  | [a,b,c],⟨⟨x,hx,ex⟩,⟨y,hy,ey⟩,⟨z,hz,ez⟩,_⟩ =>
   have b1:=bounds_i8 hx
   have b2:=bounds_i8 hy
   have b3:=bounds_u8 hz
   exact ⟨⟨x,y,z⟩,⟨b1.1,b1.2,b2.1,b2.2,b3.1,b3.2⟩,by rw [h2,ex,ey,ez];rfl⟩
theorem WK : Opens Tryz.prog 90 fun ds=>∃ s:Sr,s.Ok∧ds = srC s :=
 (Opens.struct (Rs := [fun ds => ∃ x : Qr, x.Ok ∧ ds = qrC x, fun ds => ∃ T X, XF X ∧ ds = [r5D T X]]) Tryz.underlying90 (FieldsO.cons rfl WL (FieldsO.cons rfl Up (FieldsO.nil (by kernel_rfl))))).mono fun ds ⟨l, h1, h2⟩ => by
  match l,h1 with
  | [a,b],⟨⟨x,hx,ex⟩,⟨T,X,hX,eX⟩,_⟩=>exact ⟨⟨x,T,X⟩,⟨hx,hX⟩,by rw [h2,ex,eX];rfl⟩
theorem Uo : Opens Tryz.prog 22 fun ds=>∃ T L,(∀ s∈L,Sr.Ok s)∧ds = [srD T L] :=
 (Opens.slice (c := 4) Tryz.underlying22 (by kernel_rfl) (by omega) WK fun ds ⟨s, _, h⟩ => by rw [h]; rfl).mono fun ds ⟨T, rows, h1, h2⟩ => by
  obtain ⟨L,h3,h4⟩:=KM (α:=Sr) (p:=Sr.Ok) (f:=srC) (rows:=rows) fun r hr=>h1 r hr
  exact ⟨T,L,h3,by rw [h2,h4];rfl⟩
theorem WM : Opens Tryz.prog 25 fun ds=>∃ T V,ZV V∧ds = [OY T V] :=
 (Opens.struct (Rs := [fun ds => ∃ T V, ZV V ∧ ds = [OY T V]]) Tryz.underlying25 (FieldsO.cons rfl ((Opens.slice (c := 1) Tryz.underlying23 (by kernel_rfl) (by omega) (Opens.int Tryz.underlying75) fun ds ⟨r, _, h⟩ => by rw [h]; rfl).mono fun ds ⟨T, rows, h1, h2⟩ => by
  obtain ⟨X,h3,h4⟩:=KM (α:=Int) (p:=fun z=>-128≤z∧z≤127) (f:=fun z=>[ex (.int .i8 z)]) (rows:=rows) fun r hr=>by
   obtain ⟨z,hz,e⟩:=h1 r hr
   exact ⟨z,bounds_i8 hz,e⟩
  exact ⟨T,X,h3,by rw [h2,h4];rfl⟩) (FieldsO.nil (by kernel_rfl)))).mono fun ds ⟨l,h1,h2⟩=>by
  match l,h1 with
  | [d],⟨⟨T,X,hX,hd⟩,_⟩=>exact ⟨T,X,hX,by rw [h2,hd];rfl⟩
open Go.ChangeAt Go.Joins
theorem Ew (os : Os) (started:os.Started) (H:Type) (enc:TypeId × Value→H) :
  ReturnsInHanded {} Tryz.checked os 3 .any (Rows.squaresMatchesReferenceSpec.pre6 enc Tryz.prog Tryz.f3 Rows.squaresMatchesReferenceRow.domain false) (Rows.squaresMatchesReferenceSpec.post enc Tryz.prog Tryz.f3 false true false false):=by
 refine returnsInHanded_of_change (C := Tryz.checked) own started (by kernel_rfl) Tryz.func3
  (ChangeSpec.witness6 (enc:=enc) (C:=Tryz.checked) false ⟨#[],#[.slice none 0 0,.agg #[.slice none 0 0],.agg #[.int .u8 0,.int .u8 0,.int .u8 0,.int .u8 0]],[]⟩ 8 (by kernel_rfl) (by kernel_rfl) (by kernel_rfl) (by kernel_rfl)) ?_
 intro W base args ds gs before hval0 hW hcnd _
 have Fa:∀ (j:Nat) t v,Tryz.f3.params[j]? = some t→args[j]? = some v→Value.okWide Tryz.prog W .any base t v:=hval0
 have hW':=hW
 obtain ⟨p,q,hA0,hV,rfl,hfz,hnd⟩:=hW
 have hA:DataW.TrodAll enc Tryz.prog W 0 (fun _=>true) true Tryz.f3.params.toList args.toList ds p:=hA0
 rw [Tryz.params3] at hA Fa
 obtain ⟨v0,vs0,d0,ds0,p0,q0,hargs,rfl,rfl,h0,r0⟩:=trodAll_cons hA
 obtain ⟨v1,Yt,d1,ds1,p1,q1,rfl,rfl,rfl,h1,r1⟩:=trodAll_cons r0
 obtain ⟨v2,Lc,d2,ds2,p2,q2,rfl,rfl,rfl,h2,r2⟩:=trodAll_cons r1
 obtain ⟨rfl,rfl,rfl⟩:=trodAll_nil r2
 obtain rfl:args = #[v0,v1,v2]:=by cases args;simp_all
 obtain ⟨rfl,rfl⟩:=trodVars_none hV
 have k0:=h0
 have lt0:∀ x∈p0,x.block<W.heap.size:=by obtain ⟨m,hm⟩:=k0;exact DataW.trod_lt m _ _ _ hm
 have k1:=h1
 have lt1:∀ x∈p1,x.block<W.heap.size:=by obtain ⟨m,hm⟩:=k1;exact DataW.trod_lt m _ _ _ hm
 have k2:=h2
 have lt2:∀ x∈p2,x.block<W.heap.size:=by obtain ⟨m,hm⟩:=k2;exact DataW.trod_lt m _ _ _ hm
 obtain ⟨T0,X0,hX0,e0⟩:∃ T X,(∀ s∈X,Sr.Ok s)∧(srD T X).rel (GS.all W) v0:=by
  obtain ⟨a,len,cap,rfl⟩:=okWide_slice Tryz.underlying22 (Fa 0 22 v0 rfl rfl)
  obtain ⟨fuel,hf⟩:=h0
  obtain ⟨ds,⟨T,X,hX,rfl⟩,hg⟩:=Uo _ _ _ _ _ _ _ _ _ hf
  exact ⟨T,X,hX,hg.cell rfl fun b k h=>h⟩
 obtain ⟨T1,X1,hX1,e1⟩:∃ T X,ZV X∧(BI [OY T X]).rel (GS.all W) v1:=by
  obtain ⟨cs,rfl,_⟩:=okWide_struct Tryz.underlying25 (Fa 1 25 v1 rfl rfl)
  obtain ⟨fuel,hf⟩:=h1
  obtain ⟨ds,⟨T,X,hX,rfl⟩,hg⟩:=WM _ _ _ _ _ _ _ _ _ hf
  exact ⟨T,X,hX,hg.agg rfl fun b k h=>h⟩
 obtain ⟨x2,hx2,e2⟩:∃ x:Nat→Int,(∀ j,j<4→(Lit.int .u8 (x j)).wf = true)∧(BI [ex (.int .u8 (x 0)),ex (.int .u8 (x 1)),ex (.int .u8 (x 2)),ex (.int .u8 (x 3))]).rel (GS.all W) v2:=by
  obtain ⟨cs,rfl,_⟩:=Oa Tryz.underlying26 (Fa 2 26 v2 rfl rfl)
  obtain ⟨fuel,hf⟩:=h2
  obtain ⟨ds,⟨zs,hz,hw,rfl⟩,hg⟩:=RD Tryz.underlying26 Tryz.underlying5 (by kernel_rfl) (by kernel_rfl) _ _ _ _ _ _ _ _ _ hf
  match zs,hz with
  | [z0,z1,z2,z3],_=>exact ⟨fun j=>[z0,z1,z2,z3].getD j 0,fun j hj=>hw _ (show [z0,z1,z2,z3].getD j 0∈[z0,z1,z2,z3] from by rw [List.getD_eq_getElem?_getD,List.getElem?_eq_getElem (by simpa using hj)];exact List.getElem_mem _),hg.agg rfl fun b k h=>h⟩
 clear hA0 hval0
 refine ((Wn T0 X0 T1 X1 x2 hX0 hX1 (fun j hj=>bounds_u8 (hx2 j hj))).2 (GS.all W) [v0,v1,v2] (VM W) rfl (fun k hk=>?_)).mono fun e W' ⟨v,he,s',hw,hl,hv⟩=>?_
 ·match k,hk with
  | 0,_=>exact e0
  | 1,_=>exact e1
  | 2,_=>exact e2
 obtain rfl:v = .bool true:=hv
 subst he
 have bel:Below W.heap.size W W':=hw ▸ hl.ext
 exact ⟨_,rfl,_,_,_,[],_,[],hW',trodAll_mk1 (shut_bool Tryz.underlying4 _),(trodAll_cons_mk (Below.trod Oj (by kernel_rfl) (of_decide_eq_true (by kernel_rfl)) k0 bel lt0) (trodAll_cons_mk (Below.trod Oj (by kernel_rfl) (of_decide_eq_true (by kernel_rfl)) k1 bel lt1) (trodAll_cons_mk (Below.trod Oj (by kernel_rfl) (of_decide_eq_true (by kernel_rfl)) k2 bel lt2) trodAll_mk0))),rfl,bel.frame _,fun h=>by cases h⟩
theorem EQ : Rows.squaresMatchesReferenceRow.holds Tryz.pinned (OpenSpec.ofChange Rows.squaresMatchesReferenceSpec) :=
 OpenClaim.holds_of_wide 3 Tryz.f3 rfl rfl rfl rfl rfl rfl rfl ⟨rfl, rfl, rfl, rfl, rfl⟩ rfl rfl rfl rfl rfl (by kernel_rfl) Tryz.func3 (by kernel_rfl)
  (of_decide_eq_true (by kernel_rfl)) (by unfold Func.isWrapper;first | (rw [if_pos (by decide +kernel)];kernel_rfl) | (rw [if_neg (by decide +kernel)];exact ⟨rfl,rfl⟩))
  (fun os started H enc _=>Ew os started H enc)
theorem squaresMatchesReference_holds : Rows.SquaresMatchesReferenceSaid:=EQ
#print axioms squaresMatchesReference_holds
end Go.Proofs.YtnhgojfjmhjokaaGreat
