/- Part 37 of the proof of claimClashes_holds. No condition. -/
import Derived.Test.YtcikkglcoeedlaaGreatCx31
import Derived.Test.YtcikkglcoeedlaaGreatCx36
set_option linter.unusedSimpArgs false
set_option linter.unusedVariables false
set_option maxRecDepth 100000
namespace Go.Proofs.YtcikkglcoeedlaaGreat
variable{s:GS}{z:Value}
section
open Go.RowKit Go.Deep Go.ChangeShapes Go.WideShapes
structure Rw where
 kd:Nat
 T:Nat
 L:List (Nat×List (Nat->Int))
 T':Nat
 V:List Int
structure Rw.Ok(x:Rw):Prop where
 kd:x.kd<256
 L:Rw8 x.L
 V:I8 x.V
abbrev rwX(x:Rw):List D:=YF x.T x.T' x.kd x.L x.V
theorem YP:Opens Tryz.prog 55 λR=>∃T L,Rw8 L/\R=[rwD T L]:=
 (Opens.slice (c := 1) Tryz.underlying55 Zbz Zbx YR fun R ⟨T, X, _, h⟩ => by rw [h]; rfl).mono fun R ⟨T, P, u, A⟩ => by
  obtain⟨L,I,V⟩:=NB (α:=Nat×List (Nat->Int)) (p:=λx=>ZE x.2) (f:=λx=>[r5D x.1 x.2]) (rows:=P) λr Y=>by
   obtain⟨T,X,h,e⟩:=u r Y;exact⟨(T,X),h,e⟩
  exact⟨T,L,I,by rw[A,V]⟩
theorem YS:Opens Tryz.prog 56 λR=>∃T V,I8 V/\R=[i8D T V]:=
 (Opens.slice (c := 1) Tryz.underlying56 Zbz Zbx (Opens.int Tryz.underlying64) fun R ⟨r, _, h⟩ => by rw [h]; rfl).mono fun R ⟨T, P, u, A⟩ => by
  obtain⟨X,I,B⟩:=NB (α:=Int) (p:=λz=>-128<=z/\z<=127) (f:=λz=>[ex (.int .i8 z)]) (rows:=P) λr Y=>by
   obtain⟨z,C,e⟩:=u r Y;exact⟨z,bounds_i8 C,e⟩
  exact⟨T,X,I,by rw[A,B]⟩
theorem A0D:Opens Tryz.prog 58 λR=>∃x:Rw,x.Ok/\R=rwX x:=
 (Opens.struct (Rs := [fun R => ∃ z, (Lit.int .u8 z).wf = true ∧ R = [ex (.int .u8 z)], fun R => ∃ T L, Rw8 L ∧ R = [rwD T L], fun R => ∃ T V, I8 V ∧ R = [i8D T V]]) Tryz.underlying58 (FieldsO.cons rfl (Opens.int Tryz.underlying5) (FieldsO.cons rfl YP (FieldsO.cons rfl YS (FieldsO.nil Zbz))))).mono fun R ⟨l, u, A⟩ => by
  match l,u with
  |[a,b,c],⟨⟨z,B,K⟩,⟨T,L,O,H⟩,⟨W,V,f,J⟩,_⟩=>
   have B:=bounds_u8 B;obtain⟨m,rfl⟩:∃m:Nat,z=(m:Int):=⟨z.toNat,by omega⟩;exact⟨⟨m,T,L,W,V⟩,⟨by show m<256;omega,O,f⟩,by rw[A,K,H,J];rfl⟩
theorem YQ:Opens Tryz.prog 63 λR=>∃x y:Rw,x.Ok/\y.Ok/\R=rwX x++rwX y:=
 (Rz (c := 3) Tryz.underlying63 Zbz Zbz A0D).mono fun R ⟨P, u, A, I⟩ => by
  match P,u with
  |[a,b],_=>
   obtain⟨x,C,ex⟩:=A a ZbK;obtain⟨y,N,B⟩:=A b ZbK;exact⟨x,y,C,N,by rw[I,ex,B];simp⟩
theorem A12{T:Nat}{V:List Int}(h:(i8D T V).rel s z):V.length<=9223372036854775807:=by
 obtain⟨A,c,_,u,I,_⟩:=h;rw[List.length_map]at u;have:c<=maxLen:=I;simp only[maxLen]at this;omega
theorem Xt{x y:Rw}(h:(AL (rwX x++rwX y)).rel s z):x.V.length<=9223372036854775807/\y.V.length<=9223372036854775807:=by
 obtain⟨Z,_,_,I⟩:=h;obtain⟨u,_,_,V⟩:=I 2 ZbK;obtain⟨M,_,_,m⟩:=I 5 ZbK;exact⟨A12 (T:=x.T') V,A12 (T:=y.T') m⟩
end
end Go.Proofs.YtcikkglcoeedlaaGreat
