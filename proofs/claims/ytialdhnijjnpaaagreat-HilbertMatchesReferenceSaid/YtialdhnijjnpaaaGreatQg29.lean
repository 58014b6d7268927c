/- Part 29 of the proof of hilbertMatchesReference_holds. No condition. -/
import Derived.Test.YtialdhnijjnpaaaGreatQg26
import Derived.Test.YtialdhnijjnpaaaGreatQg27
import Derived.Test.YtialdhnijjnpaaaGreatQg28
set_option linter.unusedSimpArgs false
set_option linter.unusedVariables false
set_option maxRecDepth 100000
namespace Go.Proofs.YtialdhnijjnpaaaGreat
open Go.RowKit Go.Deep Go.ChangeShapes Go.WideShapes
theorem Nq{κ:IntKind}:∀{rows:List (List D)},(∀r∈rows,∃z,(Lit.int κ z).wf=true/\r=[ex (.int κ z)])->∃zs:List Int,zs.length=rows.length/\(∀z∈zs,(Lit.int κ z).wf=true)/\rows.flatten=zs.map λz=>ex (.int κ z)
 | [],_=>⟨[],rfl,λz hz=>(by cases hz),rfl⟩
 | r::rows,h=>by
  obtain ⟨z,h1,h2⟩:=h r (by simp)
  obtain ⟨zs,h3,h4,h5⟩:=Nq (rows:=rows) λr hr=>h r (by simp [hr])
  refine ⟨z::zs,by simp [h3],λu hu=>?_,by simp [h2,h5]⟩
  rcases List.mem_cons.1 hu with rfl | hu
  .exact h1
  .exact h4 u hu
theorem SM{P:Program}{t I:TypeId}{κ:IntKind}{n:Nat}(ht:P.underlying t=some (.array n I))(hI:P.underlying I=some (.int κ))(hc:P.cellsOf I=1)(hn:P.cellsOf t=n*1):Opens P t λds=>∃zs:List Int,zs.length=n/\(∀z∈zs,(Lit.int κ z).wf=true)/\ds=zs.map λz=>ex (.int κ z):=
 (XR (c:=1) ht hc hn (Opens.int hI)).mono λds ⟨rows,h1,h2,h3⟩=>by
  obtain ⟨zs,h4,h5,h6⟩:=Nq h2
  exact ⟨zs,h4.trans h1,h5,h3.trans h6⟩
theorem UG{α:Type}[Inhabited α]{p:α->Prop}{f:α->List D}:∀{rows:List (List D)},(∀r∈rows,∃x,p x/\r=f x)->∃X:List α,(∀x∈X,p x)/\rows=X.map f
 | [],_=>⟨[],λx hx=>(by cases hx),rfl⟩
 | r::rows,h=>by
  obtain ⟨x,h1,h2⟩:=h r (by simp)
  obtain ⟨X,h3,h4⟩:=UG (rows:=rows) λr hr=>h r (by simp [hr])
  refine ⟨x::X,λu hu=>?_,by simp [h2,h4]⟩
  rcases List.mem_cons.1 hu with rfl | hu
  .exact h1
  .exact h3 u hu
theorem SN:Opens Tryz.prog 57 λds=>∃r:R4,RH r/\ds=r4C r:=
 (SM Tryz.underlying57 Tryz.underlying5 (by kernel_rfl) (by kernel_rfl)).mono fun ds ⟨zs, h4, h5, h6⟩ => by
  match zs,h4 with
  | [a,b,c,d],_=>
   have ha:=bounds_u8 (h5 a (by simp))
   have hb:=bounds_u8 (h5 b (by simp))
   have hc:=bounds_u8 (h5 c (by simp))
   have hd:=bounds_u8 (h5 d (by simp))
   refine ⟨λj=>[a.toNat,b.toNat,c.toNat,d.toNat].getD j 0,λj hj=>?_,h6.trans ?_⟩
   .have:j=0\/j=1\/j=2\/j=3:=by omega
    rcases this with rfl | rfl | rfl | rfl
    .show a.toNat<256;omega
    .show b.toNat<256;omega
    .show c.toNat<256;omega
    .show d.toNat<256;omega
   .show [ex (.int .u8 a),ex (.int .u8 b),ex (.int .u8 c),ex (.int .u8 d)]=[ex (.int .u8 (a.toNat:Nat)),ex (.int .u8 (b.toNat:Nat)),ex (.int .u8 (c.toNat:Nat)),ex (.int .u8 (d.toNat:Nat))]
    rw [Int.toNat_of_nonneg ha.1,Int.toNat_of_nonneg hb.1,Int.toNat_of_nonneg hc.1,Int.toNat_of_nonneg hd.1]
theorem Wv:Opens Tryz.prog 25 λds=>∃T X m,(∀r∈X,RH r)/\m<256/\ds=[r4D T X,ex (.int .u8 (m:Nat))]:=
 (Opens.struct (Rs := [fun ds => ∃ T X, (∀ r ∈ X, RH r) ∧ ds = [r4D T X], fun ds => ∃ z, (Lit.int .u8 z).wf = true ∧ ds = [ex (.int .u8 z)]]) Tryz.underlying25 (FieldsO.cons rfl ((Opens.slice (c := 4) Tryz.underlying23 (by kernel_rfl) (by omega) SN fun ds ⟨r, _, h⟩ => by rw [h]; rfl).mono fun ds ⟨T, rows, h1, h2⟩ => by
  obtain ⟨X,h3,h4⟩:=UG h1
  exact ⟨T,X,h3,by rw [h2,h4];rfl⟩) (FieldsO.cons (by kernel_rfl) (Opens.int Tryz.underlying5) (FieldsO.nil (by kernel_rfl))))).mono λds ⟨l,h1,h2⟩=>by
  match l,h1 with
  | [d,e],⟨⟨T,X,hX,hd⟩,⟨z,hz,he⟩,_⟩=>
   have hb:=bounds_u8 hz
   refine ⟨T,X,z.toNat,hX,by omega,?_⟩
   rw [h2,hd,he,Int.toNat_of_nonneg hb.1]
   rfl
open Go.ChangeAt Go.Joins
theorem EK(os:Os)(started:os.Started)(H:Type)(enc:TypeId×Value->H) :
  ReturnsInHanded {} Tryz.checked os 3 .any (Rows.hilbertMatchesReferenceSpec.pre6 enc Tryz.prog Tryz.f3 Rows.hilbertMatchesReferenceRow.domain false) (Rows.hilbertMatchesReferenceSpec.post enc Tryz.prog Tryz.f3 false true false false):=by
 refine returnsInHanded_of_change (C := Tryz.checked) own started (by kernel_rfl) Tryz.func3
  (ChangeSpec.witness6 (enc:=enc) (C:=Tryz.checked) false ⟨#[],#[.agg #[.slice none 0 0,.int .u8 0],.int .i64 0],[]⟩ 8 (by kernel_rfl) (by kernel_rfl) (by kernel_rfl) (by kernel_rfl)) ?_
 intro W base args ds gs before hval0 hW hcnd _
 have Gg:∀(j:Nat) t v,Tryz.f3.params[j]? = some t->args[j]? = some v->Value.okWide Tryz.prog W .any base t v:=hval0
 have hW':=hW
 obtain ⟨p,q,hA0,hV,rfl,hfz,hnd⟩:=hW
 have hA:DataW.TrodAll enc Tryz.prog W 0 (λ_=>true) true Tryz.f3.params.toList args.toList ds p:=hA0
 rw [Tryz.params3] at hA Gg
 obtain ⟨v0,vs0,d0,ds0,p0,q0,hargs,rfl,rfl,h0,r0⟩:=trodAll_cons hA
 obtain ⟨v1,Yl,d1,ds1,p1,q1,rfl,rfl,rfl,h1,r1⟩:=trodAll_cons r0
 obtain ⟨rfl,rfl,rfl⟩:=trodAll_nil r1
 obtain rfl:args=#[v0,v1]:=by cases args;simp_all
 obtain ⟨rfl,rfl⟩:=trodVars_none hV
 have k0:=h0
 have lt0:∀x∈p0,x.block<W.heap.size:=by obtain ⟨m,hm⟩:=k0;exact DataW.trod_lt m _ _ _ hm
 have k1:=h1
 have lt1:∀x∈p1,x.block<W.heap.size:=by obtain ⟨m,hm⟩:=k1;exact DataW.trod_lt m _ _ _ hm
 obtain ⟨T0,X0,m0,hX0,hm0,e0⟩:∃T X m,(∀r∈X,RH r)/\m<256/\(inD T X m).rel (GS.all W) v0:=by
  obtain ⟨cs,rfl,_⟩:=okWide_struct Tryz.underlying25 (Gg 0 25 v0 rfl rfl)
  obtain ⟨fuel,hf⟩:=h0
  obtain ⟨ds,⟨T,X,m,hX,hm,rfl⟩,hg⟩:=Wv _ _ _ _ _ _ _ _ _ hf
  exact ⟨T,X,m,hX,hm,hg.agg rfl λb k h=>h⟩
 obtain ⟨n1,rfl,hn1,_,hw1⟩:=open_int Tryz.underlying3 (Gg 1 3 v1 rfl rfl) h1
 have e1:(ex (.int .i64 n1)).rel (GS.all W) (.int .i64 n1):=rfl
 clear hA0 hval0
 refine ((SV T0 X0 m0 n1 hX0 hm0 (bounds_i64 hw1)).2 (GS.all W) [v0,(.int .i64 n1)] (XU W) rfl (λk hk=>?_)).mono λe W' ⟨v,he,s',hw,hl,hv⟩=>?_
 .match k,hk with
  | 0,_=>exact e0
  | 1,_=>exact e1
 obtain rfl:v = .bool true:=hv
 subst he
 have bel:Below W.heap.size W W':=hw▸hl.ext
 exact ⟨_,rfl,_,_,_,[],_,[],hW',trodAll_mk1 (shut_bool Tryz.underlying4 _),(trodAll_cons_mk (Below.trod Vj (by kernel_rfl) (of_decide_eq_true (by kernel_rfl)) k0 bel lt0) (trodAll_cons_mk (Below.trod Vj (by kernel_rfl) (of_decide_eq_true (by kernel_rfl)) k1 bel lt1) trodAll_mk0)),rfl,bel.frame _,λh=>by cases h⟩
theorem Fd:Rows.hilbertMatchesReferenceRow.holds Tryz.pinned (OpenSpec.ofChange Rows.hilbertMatchesReferenceSpec):=
 OpenClaim.holds_of_wide 3 Tryz.f3 rfl rfl rfl rfl rfl rfl rfl ⟨rfl, rfl, rfl, rfl, rfl⟩ rfl rfl rfl rfl rfl (by kernel_rfl) Tryz.func3 (by kernel_rfl)
  (of_decide_eq_true (by kernel_rfl)) (by unfold Func.isWrapper;first | (rw [if_pos (by decide +kernel)];kernel_rfl) | (rw [if_neg (by decide +kernel)];exact ⟨rfl,rfl⟩))
  (λos started H enc _=>EK os started H enc)
theorem hilbertMatchesReference_holds:Rows.HilbertMatchesReferenceSaid:=Fd
#print axioms hilbertMatchesReference_holds
end Go.Proofs.YtialdhnijjnpaaaGreat
