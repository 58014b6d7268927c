/- Part 21 of the proof of polynomialValid_holds. No condition. -/
import Derived.Test.YtclmdofdjbdfiaaGreatVa17
import Derived.Test.YtclmdofdjbdfiaaGreatVa18
import Derived.Test.YtclmdofdjbdfiaaGreatVa19
import Derived.Test.YtclmdofdjbdfiaaGreatVa20
set_option linter.unusedSimpArgs false
set_option linter.unusedVariables false
set_option maxRecDepth 100000
namespace Go.Proofs.YtclmdofdjbdfiaaGreat
open Go.RowKit Go.Deep Go.ChangeShapes Go.WideShapes
theorem Kl{κ:IntKind}:∀{rows:List (List D)},(∀r∈rows,∃z,(Lit.int κ z).wf=true/\r=[ex (.int κ z)])->∃zs:List Int,zs.length=rows.length/\(∀z∈zs,(Lit.int κ z).wf=true)/\rows.flatten=zs.map λz=>ex (.int κ z)
 | [],_=>⟨[],rfl,λz hz=>(by cases hz),rfl⟩
 | r::rows,h=>by
  obtain ⟨z,h1,h2⟩:=h r (by simp)
  obtain ⟨zs,h3,h4,h5⟩:=Kl (rows:=rows) λr hr=>h r (by simp [hr])
  refine ⟨z::zs,by simp [h3],λu hu=>?_,by simp [h2,h5]⟩
  rcases List.mem_cons.1 hu with rfl | hu
  .exact h1
  .exact h4 u hu
theorem NM{P:Program}{t I:TypeId}{κ:IntKind}{n:Nat}(ht:P.underlying t=some (.array n I))(hI:P.underlying I=some (.int κ))(hc:P.cellsOf I=1)(hn:P.cellsOf t=n*1):Opens P t λds=>∃zs:List Int,zs.length=n/\(∀z∈zs,(Lit.int κ z).wf=true)/\ds=zs.map λz=>ex (.int κ z):=
 (Rj (c:=1) ht hc hn (Opens.int hI)).mono λds ⟨rows,h1,h2,h3⟩=>by
  obtain ⟨zs,h4,h5,h6⟩:=Kl h2
  exact ⟨zs,h4.trans h1,h5,h3.trans h6⟩
theorem Pg{α:Type}[Inhabited α]{p:α->Prop}{f:α->List D}:∀{rows:List (List D)},(∀r∈rows,∃x,p x/\r=f x)->∃X:List α,(∀x∈X,p x)/\rows=X.map f
 | [],_=>⟨[],λx hx=>(by cases hx),rfl⟩
 | r::rows,h=>by
  obtain ⟨x,h1,h2⟩:=h r (by simp)
  obtain ⟨X,h3,h4⟩:=Pg (rows:=rows) λr hr=>h r (by simp [hr])
  refine ⟨x::X,λu hu=>?_,by simp [h2,h4]⟩
  rcases List.mem_cons.1 hu with rfl | hu
  .exact h1
  .exact h3 u hu
theorem Vw{s:GS}{v:Value}{T:TypeId}{l:List Nat}(hS:∀b k,b<s.w.heap.size->s.S b k)(hs:AI l)(h:(slD T 1 (l.map λx=>[ex (.int .u32 (x:Nat))])).rel s v):(aD l).rel s v:=by
 obtain ⟨A,c,h1,h2,h3,h4⟩:=h
 simp only [List.length_map] at h1 h2 h4
 refine ⟨A,c,h1,h2,h3,hs,λh0=>?_⟩
 obtain ⟨b,o,h5,h6⟩:=h4 h0
 obtain ⟨_,cs,fz,h7,h8⟩:=h6 0 h0
 refine ⟨b,o,cs,T,fz,h5,h7,λk=>hS b k (AK h7),λi hi=>?_⟩
 obtain ⟨h9,cs',fz',h10,h11⟩:=h6 i hi
 rw [h7] at h10
 cases h10
 obtain ⟨_,u,h12,_,h13⟩:=h11 0 (by rw [h9];omega)
 have e:CX ((l.map λx=>[ex (.int .u32 (x:Nat))]).getD i []) 0=ex (.int .u32 (l[i]:Nat)):=by simp [CX,hi]
 rw [e] at h13
 have h13:u=_:=h13
 rw [Nat.mul_one,Nat.add_zero] at h12
 rw [h12,h13]
theorem Mb:Opens Tryz.prog 25 λds=>∃l,AI l/\ds=[aD l]:=λH enc w base spare held fuel cs x hx=>by
 obtain ⟨ds,⟨T,rows,hr,rfl⟩,hg⟩:=Opens.slice (c:=1) (R:=λds=>∃z,(Lit.int .u32 z).wf=true/\ds=[ex (.int .u32 z)]) Tryz.underlying25 (by kernel_rfl) (by omega) (Opens.int Tryz.underlying84) (λds ⟨z,_,e⟩=>by rw [e];rfl) H enc w base spare held fuel cs x hx
 obtain ⟨l,hs,rfl⟩:∃l:List Nat,AI l/\rows=l.map λx=>[ex (.int .u32 (x:Nat))]:=by
  clear hg
  induction rows with
  | nil=>exact ⟨[],(λx hx=>(by cases hx)),rfl⟩
  | cons r rows ih=>
   obtain ⟨z,hw,rfl⟩:=hr r (by simp)
   obtain ⟨l,h1,h2⟩:=ih λr hr'=>hr r (by simp [hr'])
   have hz:=bounds_u32 hw
   refine ⟨z.toNat::l,λx hx=>?_,?_⟩
   .rcases List.mem_cons.1 hx with rfl | hx
    .rw [AJ];omega
    .exact h1 x hx
   .rw [h2,List.map_cons,show ((z.toNat:Nat):Int)=z by omega]
 refine ⟨_,⟨l,hs,rfl⟩,hg.1,λs hw hS k hk=>?_⟩
 obtain rfl:k=0:=by simpa using hk
 obtain ⟨u,h1,h2,h3⟩:=hg.2 s hw hS 0 (by simp)
 exact ⟨u,h1,h2,Vw (by rw [hw];exact hS) hs h3⟩
theorem Kk:Opens Tryz.prog 27 λds=>∃b l,AI l/\ds=[ex (.bool b),aD l]:=
 (Opens.struct (Rs := [fun ds => ∃ b, ds = [ex (.bool b)], fun ds => ∃ l, AI l ∧ ds = [aD l]]) Tryz.underlying27 (FieldsO.cons rfl (Opens.bool Tryz.underlying4) (FieldsO.cons rfl Mb (FieldsO.nil (by kernel_rfl))))).mono fun ds ⟨l, h1, h2⟩ => by
  match l,h1 with
  | [d0,d1],⟨⟨b,hd⟩,⟨m,hm,hd'⟩,_⟩=>exact ⟨b,m,hm,by rw [h2,hd,hd'];rfl⟩
theorem Qc:Opens Tryz.prog 29 λds=>∃b l b' l',(AI l/\AI l')/\ds=ND b l b' l':=
 (Opens.struct (Rs := [fun ds => ∃ b l, AI l ∧ ds = [ex (.bool b), aD l], fun ds => ∃ b l, AI l ∧ ds = [ex (.bool b), aD l]]) Tryz.underlying29 (FieldsO.cons rfl Kk (FieldsO.cons rfl Kk (FieldsO.nil (by kernel_rfl))))).mono fun ds ⟨l, h1, h2⟩ => by
  match l,h1 with
  | [d0,d1],⟨⟨b,m,hm,hd⟩,⟨b',m',hm',hd'⟩,_⟩=>exact ⟨b,m,b',m',⟨hm,hm'⟩,by rw [h2,hd,hd'];rfl⟩
theorem NL:Opens Tryz.prog 31 λds=>∃m:Nat->Int,ds=BW m:=
 (NM (n := 8) Tryz.underlying31 Tryz.underlying3 (by kernel_rfl) (by kernel_rfl)).mono fun ds ⟨zs, h1, _, h2⟩ => by
  match zs,h1 with
  | [a,b,c,d,e,f,g,h],_=>exact ⟨λj=>[a,b,c,d,e,f,g,h].getD j 0,h2⟩
theorem NJ:Opens Tryz.prog 33 λds=>∃r:RTm,(AI r.l/\AI r.l')/\ds=Vt r:=
 (Opens.struct (Rs := [fun ds => ∃ b l b' l', (AI l ∧ AI l') ∧ ds = ND b l b' l', fun ds => ∃ m : Nat → Int, ds = BW m]) Tryz.underlying33 (FieldsO.cons rfl Qc (FieldsO.cons rfl NL (FieldsO.nil (by kernel_rfl))))).mono fun ds ⟨l, h1, h2⟩ => by
  match l,h1 with
  | [d0,d1],⟨⟨b,m,b',m',hm,hd⟩,⟨a,hd'⟩,_⟩=>exact ⟨⟨b,m,b',m',a⟩,hm,by rw [h2,hd,hd'];rfl⟩
theorem NK:Opens Tryz.prog 23 λds=>∃T L,(∀r∈L,AI r.l/\AI r.l')/\ds=[Ta T L]:=
 (Opens.slice (c := 12) Tryz.underlying23 (by kernel_rfl) (by omega) NJ fun ds ⟨r, _, h⟩ => by rw [h]; rfl).mono fun ds ⟨T, rows, h1, h2⟩ => by
  obtain ⟨X,h3,h4⟩:=Pg h1
  exact ⟨T,X,h3,by rw [h2,h4];rfl⟩
open Go.ChangeAt Go.Joins
theorem Fo(os:Os)(started:os.Started)(H:Type)(enc:TypeId×Value->H) :
  ReturnsInHanded {} Tryz.checked os 3 .any (Rows.polynomialValidSpec.pre6 enc Tryz.prog Tryz.f3 Rows.polynomialValidRow.domain false) (Rows.polynomialValidSpec.post enc Tryz.prog Tryz.f3 false true false false):=by
 refine returnsInHanded_of_change (C := Tryz.checked) own started (by kernel_rfl) Tryz.func3
  (ChangeSpec.witness6 (enc:=enc) (C:=Tryz.checked) false ⟨#[],#[.slice none 0 0],[]⟩ 8 (by kernel_rfl) (by kernel_rfl) (by kernel_rfl) (by kernel_rfl)) ?_
 intro W base args ds gs before hval0 hW hcnd _
 have Ft:∀(j:Nat) t v,Tryz.f3.params[j]? = some t->args[j]? = some v->Value.okWide Tryz.prog W .any base t v:=hval0
 have hW':=hW
 obtain ⟨p,q,hA0,hV,rfl,hfz,hnd⟩:=hW
 have hA:DataW.TrodAll enc Tryz.prog W 0 (λ_=>true) true Tryz.f3.params.toList args.toList ds p:=hA0
 rw [Tryz.params3] at hA Ft
 obtain ⟨v0,vs0,d0,ds0,p0,q0,hargs,rfl,rfl,h0,r0⟩:=trodAll_cons hA
 obtain ⟨rfl,rfl,rfl⟩:=trodAll_nil r0
 obtain rfl:args=#[v0]:=by cases args;simp_all
 obtain ⟨rfl,rfl⟩:=trodVars_none hV
 have k0:=h0
 have lt0:∀x∈p0,x.block<W.heap.size:=by obtain ⟨m,hm⟩:=k0;exact DataW.trod_lt m _ _ _ hm
 obtain ⟨T0,X0,hX0,e0⟩:∃T X,(∀r∈X,AI r.l/\AI r.l')/\(Ta T X).rel (GS.all W) v0:=by
  obtain ⟨a,len,cap,rfl⟩:=okWide_slice Tryz.underlying23 (Ft 0 23 v0 rfl rfl)
  obtain ⟨fuel,hf⟩:=h0
  obtain ⟨ds,⟨T,X,hX,rfl⟩,hg⟩:=NK _ _ _ _ _ _ _ _ _ hf
  exact ⟨T,X,hX,hg.cell rfl λb k h=>h⟩
 clear hA0 hval0
 refine ((NH T0 X0 hX0).2 (GS.all W) [v0] (Rk W) rfl (λk hk=>?_)).mono λe W' ⟨v,he,s',hw,hl,hv⟩=>?_
 .match k,hk with
  | 0,_=>exact e0
 obtain rfl:v = .bool true:=hv
 subst he
 have bel:Below W.heap.size W W':=hw▸hl.ext
 exact ⟨_,rfl,_,_,_,[],_,[],hW',trodAll_mk1 (shut_bool Tryz.underlying4 _),(trodAll_cons_mk (Below.trod Tt (by kernel_rfl) (of_decide_eq_true (by kernel_rfl)) k0 bel lt0) trodAll_mk0),rfl,bel.frame _,λh=>by cases h⟩
theorem FL:Rows.polynomialValidRow.holds Tryz.pinned (OpenSpec.ofChange Rows.polynomialValidSpec):=
 OpenClaim.holds_of_wide 3 Tryz.f3 rfl rfl rfl rfl rfl rfl rfl ⟨rfl, rfl, rfl, rfl, rfl⟩ rfl rfl rfl rfl rfl (by kernel_rfl) Tryz.func3 (by kernel_rfl)
  (of_decide_eq_true (by kernel_rfl)) (by unfold Func.isWrapper;first | (rw [if_pos (by decide +kernel)];kernel_rfl) | (rw [if_neg (by decide +kernel)];exact ⟨rfl,rfl⟩))
  (λos started H enc _=>Fo os started H enc)
theorem polynomialValid_holds:Rows.PolynomialValidSaid:=FL
#print axioms polynomialValid_holds
end Go.Proofs.YtclmdofdjbdfiaaGreat
