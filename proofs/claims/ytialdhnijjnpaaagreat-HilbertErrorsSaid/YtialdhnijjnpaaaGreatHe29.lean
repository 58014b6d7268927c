/- Part 29 of the proof of hilbertErrors_holds. No condition. -/
import Derived.Test.YtialdhnijjnpaaaGreatHe26
import Derived.Test.YtialdhnijjnpaaaGreatHe27
import Derived.Test.YtialdhnijjnpaaaGreatHe28
set_option linter.unusedSimpArgs false
set_option linter.unusedVariables false
set_option maxRecDepth 100000
namespace Go.Proofs.YtialdhnijjnpaaaGreat
open Go.ChangeShapes Go.WideShapes Go.ChangeAt Go.RowKit Go.Deep Go.Joins
theorem Gr (os : Os) (started:os.Started) (H:Type) (enc:TypeId × Value→H) :
  ReturnsInHanded {} Tryz.checked os 10 .any (Rows.hilbertErrorsSpec.pre6 enc Tryz.prog Tryz.f10 Rows.hilbertErrorsRow.domain false) (Rows.hilbertErrorsSpec.post enc Tryz.prog Tryz.f10 false true false false):=by
 refine returnsInHanded_of_change (C := Tryz.checked) own started (by kernel_rfl) Tryz.func10
  (ChangeSpec.witness6 (enc:=enc) (C:=Tryz.checked) false ⟨#[],#[.int .i64 0,.int .u8 0,.int .i64 0],[]⟩ 8 (by kernel_rfl) (by kernel_rfl) (by kernel_rfl) (by kernel_rfl)) ?_
 intro W base args ds gs before hval0 hW hcnd _
 have Fe:∀ (j:Nat) t v,Tryz.f10.params[j]? = some t→args[j]? = some v→Value.okWide Tryz.prog W .any base t v:=hval0
 have hW':=hW
 obtain ⟨p,q,hA0,hV,rfl,hfz,hnd⟩:=hW
 have hA:DataW.TrodAll enc Tryz.prog W 0 (fun _=>true) true Tryz.f10.params.toList args.toList ds p:=hA0
 rw [Tryz.params10] at hA Fe
 obtain ⟨v0,vs0,d0,ds0,p0,q0,hargs,rfl,rfl,h0,r0⟩:=trodAll_cons hA
 obtain ⟨v1,Vh,d1,ds1,p1,q1,rfl,rfl,rfl,h1,r1⟩:=trodAll_cons r0
 obtain ⟨v2,YJ,d2,ds2,p2,q2,rfl,rfl,rfl,h2,r2⟩:=trodAll_cons r1
 obtain ⟨rfl,rfl,rfl⟩:=trodAll_nil r2
 obtain rfl:args = #[v0,v1,v2]:=by cases args;simp_all
 obtain ⟨rfl,rfl⟩:=trodVars_none hV
 have k0:=h0
 have lt0:∀ x∈p0,x.block<W.heap.size:=by obtain ⟨m,hm⟩:=k0;exact DataW.trod_lt m _ _ _ hm
 have k1:=h1
 have lt1:∀ x∈p1,x.block<W.heap.size:=by obtain ⟨m,hm⟩:=k1;exact DataW.trod_lt m _ _ _ hm
 have k2:=h2
 have lt2:∀ x∈p2,x.block<W.heap.size:=by obtain ⟨m,hm⟩:=k2;exact DataW.trod_lt m _ _ _ hm
 obtain ⟨n0,rfl,hn0,_,hw0⟩:=open_int Tryz.underlying3 (Fe 0 3 v0 rfl rfl) h0
 have e0:(ex (.int .i64 n0)).rel (GS.all W) (.int .i64 n0):=rfl
 obtain ⟨n1,rfl,hn1,_,hw1⟩:=open_int Tryz.underlying5 (Fe 1 5 v1 rfl rfl) h1
 obtain ⟨m1,rfl⟩:∃ m:Nat,n1 = (m:Int):=⟨n1.toNat,by have:=bounds_u8 hw1;omega⟩
 have e1:(ex (.int .u8 (m1:Nat))).rel (GS.all W) (.int .u8 (m1:Nat)):=rfl
 obtain ⟨n2,rfl,hn2,_,hw2⟩:=open_int Tryz.underlying3 (Fe 2 3 v2 rfl rfl) h2
 have e2:(ex (.int .i64 n2)).rel (GS.all W) (.int .i64 n2):=rfl
 clear hA0 hval0
 refine ((TZ n0 m1 n2 (bounds_i64 hw0) (by have:=bounds_u8 hw1;omega) (bounds_i64 hw2)).2 (GS.all W) [(.int .i64 n0),(.int .u8 ((m1:Nat):Int)),(.int .i64 n2)] (SN W) rfl (fun k hk=>?_)).mono fun e W' ⟨v,he,s',hw,hl,hv⟩=>?_
 ·match k,hk with
  | 0,_=>exact e0
  | 1,_=>exact e1
  | 2,_=>exact e2
 obtain rfl:v = .bool true:=hv
 subst he
 have bel:Below W.heap.size W W':=hw ▸ hl.ext
 exact ⟨_,rfl,_,_,_,[],_,[],hW',trodAll_mk1 (shut_bool Tryz.underlying4 _),(trodAll_cons_mk (Below.trod Mx (by kernel_rfl) (of_decide_eq_true (by kernel_rfl)) k0 bel lt0) (trodAll_cons_mk (Below.trod Mx (by kernel_rfl) (of_decide_eq_true (by kernel_rfl)) k1 bel lt1) (trodAll_cons_mk (Below.trod Mx (by kernel_rfl) (of_decide_eq_true (by kernel_rfl)) k2 bel lt2) trodAll_mk0))),rfl,bel.frame _,fun h=>by cases h⟩
theorem Hn : Rows.hilbertErrorsRow.holds Tryz.pinned (OpenSpec.ofChange Rows.hilbertErrorsSpec) :=
 OpenClaim.holds_of_wide 10 Tryz.f10 rfl rfl rfl rfl rfl rfl rfl ⟨rfl, rfl, rfl, rfl, rfl⟩ rfl rfl rfl rfl rfl (by kernel_rfl) Tryz.func10 (by kernel_rfl)
  (of_decide_eq_true (by kernel_rfl)) (by unfold Func.isWrapper;first | (rw [if_pos (by decide +kernel)];kernel_rfl) | (rw [if_neg (by decide +kernel)];exact ⟨rfl,rfl⟩))
  (fun os started H enc _=>Gr os started H enc)
theorem hilbertErrors_holds : Rows.HilbertErrorsSaid:=Hn
#print axioms hilbertErrors_holds
end Go.Proofs.YtialdhnijjnpaaaGreat
