/- Part 38 of the proof of claimAnswers_holds. No condition. -/
import Derived.Test.YtcikkglcoeedlaaGreatCa32
import Derived.Test.YtcikkglcoeedlaaGreatCa37
set_option linter.unusedSimpArgs false
set_option linter.unusedVariables false
set_option maxRecDepth 100000
namespace Go.Proofs.YtcikkglcoeedlaaGreat
variable{s:GS}{z:Value}
section
open Go.RowKit Go.Deep Go.ChangeShapes Go.WideShapes
structure Rw where
 kd:Nat
 T:Nat
 L:List (Nat×List (Nat->Int))
 T':Nat
 V:List Int
structure Rw.Ok(x:Rw):Prop where
 kd:x.kd<256
 L:Rw8 x.L
 V:I8 x.V
abbrev rwX(x:Rw):List D:=Yu x.T x.T' x.kd x.L x.V
theorem ZM:Opens Tryz.prog 55 λR=>∃T L,Rw8 L/\R=[rwD T L]:=
 (Opens.slice (c := 1) Tryz.underlying55 ZbM ZbK ZO fun R ⟨T, X, _, h⟩ => by rw [h]; rfl).mono fun R ⟨T, y, A, B⟩ => by
  obtain⟨L,C,V⟩:=Oj (α:=Nat×List (Nat->Int)) (p:=λx=>A0u x.2) (f:=λx=>[r5D x.1 x.2]) (rows:=y) λr b=>by
   obtain⟨T,X,h,e⟩:=A r b;exact⟨(T,X),h,e⟩
  exact⟨T,L,C,by rw[B,V]⟩
theorem ZP:Opens Tryz.prog 56 λR=>∃T V,I8 V/\R=[i8D T V]:=
 (Opens.slice (c := 1) Tryz.underlying56 ZbM ZbK (Opens.int Tryz.underlying64) fun R ⟨r, _, h⟩ => by rw [h]; rfl).mono fun R ⟨T, y, A, B⟩ => by
  obtain⟨X,L,C⟩:=Oj (α:=Int) (p:=λz=>-128<=z/\z<=127) (f:=λz=>[ex (.int .i8 z)]) (rows:=y) λr b=>by
   obtain⟨z,E,e⟩:=A r b;exact⟨z,bounds_i8 E,e⟩
  exact⟨T,X,L,by rw[B,C]⟩
theorem A1y:Opens Tryz.prog 58 λR=>∃x:Rw,x.Ok/\R=rwX x:=
 (Opens.struct (Rs := [fun R => ∃ z, (Lit.int .u8 z).wf = true ∧ R = [ex (.int .u8 z)], fun R => ∃ T L, Rw8 L ∧ R = [rwD T L], fun R => ∃ T V, I8 V ∧ R = [i8D T V]]) Tryz.underlying58 (FieldsO.cons rfl (Opens.int Tryz.underlying5) (FieldsO.cons rfl ZM (FieldsO.cons rfl ZP (FieldsO.nil ZbM))))).mono fun R ⟨l, A, B⟩ => by
  match l,A with
  |[a,b,c],⟨⟨z,C,e⟩,⟨T,L,E,G⟩,⟨Q,V,F,d⟩,_⟩=>
   have C:=bounds_u8 C;obtain⟨m,rfl⟩:∃m:Nat,z=(m:Int):=⟨z.toNat,by omega⟩;exact⟨⟨m,T,L,Q,V⟩,⟨by show m<256;omega,E,F⟩,by rw[B,e,G,d];rfl⟩
theorem ZN:Opens Tryz.prog 63 λR=>∃x y:Rw,x.Ok/\y.Ok/\R=rwX x++rwX y:=
 (Sn (c := 3) Tryz.underlying63 ZbM ZbM A1y).mono fun R ⟨C, A, B, L⟩ => by
  match C,A with
  |[a,b],_=>
   obtain⟨x,E,ex⟩:=B a ZbV;obtain⟨y,O,K⟩:=B b ZbV;exact⟨x,y,E,O,by rw[L,ex,K];simp⟩
theorem A1X{T:Nat}{V:List Int}(h:(i8D T V).rel s z):V.length<=9223372036854775807:=by
 obtain⟨A,c,_,B,L,_⟩:=h;rw[List.length_map]at B;have:c<=maxLen:=L;simp only[maxLen]at this;omega
theorem Yw{x y:Rw}(h:(AJ (rwX x++rwX y)).rel s z):x.V.length<=9223372036854775807/\y.V.length<=9223372036854775807:=by
 obtain⟨a,_,_,L⟩:=h;obtain⟨u,_,_,V⟩:=L 2 ZbV;obtain⟨n,_,_,m⟩:=L 5 ZbV;exact⟨A1X (T:=x.T') V,A1X (T:=y.T') m⟩
end
end Go.Proofs.YtcikkglcoeedlaaGreat
