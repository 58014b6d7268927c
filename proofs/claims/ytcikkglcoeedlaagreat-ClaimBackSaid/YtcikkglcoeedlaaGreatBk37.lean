/- Part 37. No condition. -/
import Derived.Test.YtcikkglcoeedlaaGreatBk28
import Derived.Test.YtcikkglcoeedlaaGreatBk36
set_option linter.unusedSimpArgs false
set_option linter.unusedVariables false
set_option maxRecDepth 100000
namespace Go.Proofs.YtcikkglcoeedlaaGreat
open _root_.Go.Proofs.Tryz
variable{s:GS}{z:Value}
section
open Go.RowKit Go.Deep Go.ChangeShapes Go.WideShapes
structure Rw where
 kd:Nat
 T:Nat
 L:List (Nat×List (Nat->Int))
 T':Nat
 V:List Int
structure Rw.Ok(x:Rw):Prop where
 kd:x.kd<256
 L:Tc x.L
 V:I8 x.V
abbrev rwX(x:Rw):List D:=He x.T x.T' x.kd x.L x.V
theorem A2P:Opens prog 55 λR=>∃T L,Tc L/\R=[ZW T L]:=
 (Opens.slice (c := 1) underlying55 ZbI ZbD A2Q fun R ⟨T, X, _, h⟩ => by rw [h]; rfl).mono fun R ⟨T, F, A, B⟩ => by
  obtain⟨L,C,S⟩:=Qo (α:=Nat×List (Nat->Int)) (p:=λx=>A3y x.2) (f:=λx=>[r5D x.1 x.2]) (rows:=F) λr E=>by
   obtain⟨T,X,h,e⟩:=A r E;exact⟨(T,X),h,e⟩
  exact⟨T,L,C,by rw[B,S]⟩
theorem A2R:Opens prog 56 λR=>∃T V,I8 V/\R=[Ol T V]:=
 (Opens.slice (c := 1) underlying56 ZbI ZbD (Opens.int underlying64) fun R ⟨r, _, h⟩ => by rw [h]; rfl).mono fun R ⟨T, E, A, B⟩ => by
  obtain⟨X,L,S⟩:=Qo (α:=Int) (p:=λz=>-128<=z/\z<=127) (f:=λz=>[ex (.int .i8 z)]) (rows:=E) λr C=>by
   obtain⟨z,o,e⟩:=A r C;exact⟨z,bounds_i8 o,e⟩
  exact⟨T,X,L,by rw[B,S]⟩
theorem A53:Opens prog 58 λR=>∃x:Rw,x.Ok/\R=rwX x:=
 (Opens.struct (Rs := [fun R => ∃ z, (Lit.int .u8 z).wf = true ∧ R = [ex (.int .u8 z)], fun R => ∃ T L, Tc L ∧ R = [ZW T L], fun R => ∃ T V, I8 V ∧ R = [Ol T V]]) underlying58 (FieldsO.cons rfl (Opens.int underlying5) (FieldsO.cons rfl A2P (FieldsO.cons rfl A2R (FieldsO.nil ZbI))))).mono fun R ⟨l, A, B⟩ => by
  match l,A with
  |[a,b,c],⟨⟨z,o,r⟩,⟨T,L,p,W⟩,⟨C,V,e,X⟩,_⟩=>
   have o:=bounds_u8 o;obtain⟨m,rfl⟩:∃m:Nat,z=(m:Int):=⟨z.toNat,by omega⟩;exact⟨⟨m,T,L,C,V⟩,⟨by show m<256;omega,p,e⟩,by rw[B,r,W,X];rfl⟩
theorem A9K{T:Nat}{V:List Int}(h:(Ol T V).rel s z):V.length<=9223372036854775807:=by
 obtain⟨A,c,_,B,L,_⟩:=h;rw[Yar]at B;have:c<=maxLen:=L;simp only[maxLen]at this;omega
theorem A98{x:Rw}(h:(AP (rwX x)).rel s z):x.V.length<=9223372036854775807:=by
 obtain⟨A,_,_,L⟩:=h;obtain⟨u,_,_,S⟩:=L 2 ZbS;exact A9K (T:=x.T') S
end
