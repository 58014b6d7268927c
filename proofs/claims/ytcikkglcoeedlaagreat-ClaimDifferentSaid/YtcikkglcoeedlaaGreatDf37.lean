/- Part 37. No condition. -/
import Derived.Test.YtcikkglcoeedlaaGreatDf28
import Derived.Test.YtcikkglcoeedlaaGreatDf36
set_option linter.unusedSimpArgs false
set_option linter.unusedVariables false
set_option maxRecDepth 100000
namespace Go.Proofs.YtcikkglcoeedlaaGreat
open _root_.Go.Proofs.Tryz
variable{s:GS}{z:Value}
section
open Go.RowKit Go.Deep Go.ChangeShapes Go.WideShapes
structure Rw where
 kd:Nat
 T:Nat
 L:List (Nat×List (Nat->Int))
 T':Nat
 V:List Int
structure Rw.Ok(x:Rw):Prop where
 kd:x.kd<256
 L:Tx x.L
 V:I8 x.V
abbrev rwX(x:Rw):List D:=Hh x.T x.T' x.kd x.L x.V
theorem A33:Opens prog 55 λS=>∃T L,Tx L/\S=[rwD T L]:=
 (Opens.slice (c := 1) underlying55 ZbK ZbG A35 fun S ⟨T, X, _, h⟩ => by rw [h]; rfl).mono fun S ⟨T, B, q, A⟩ => by
  obtain⟨L,K,Y⟩:=QG (α:=Nat×List (Nat->Int)) (p:=λx=>A3M x.2) (f:=λx=>[r5D x.1 x.2]) (rows:=B) λr V=>by
   obtain⟨T,X,h,e⟩:=q r V;exact⟨(T,X),h,e⟩
  exact⟨T,L,K,by rw[A,Y]⟩
theorem A36:Opens prog 56 λS=>∃T V,I8 V/\S=[Ov T V]:=
 (Opens.slice (c := 1) underlying56 ZbK ZbG (Opens.int underlying64) fun S ⟨r, _, h⟩ => by rw [h]; rfl).mono fun S ⟨T, C, q, A⟩ => by
  obtain⟨X,K,Y⟩:=QG (α:=Int) (p:=λz=>-128<=z/\z<=127) (f:=λz=>[ex (.int .i8 z)]) (rows:=C) λr B=>by
   obtain⟨z,u,e⟩:=q r B;exact⟨z,bounds_i8 u,e⟩
  exact⟨T,X,K,by rw[A,Y]⟩
theorem A5f:Opens prog 58 λS=>∃x:Rw,x.Ok/\S=rwX x:=
 (Opens.struct (Rs := [fun S => ∃ z, (Lit.int .u8 z).wf = true ∧ S = [ex (.int .u8 z)], fun S => ∃ T L, Tx L ∧ S = [rwD T L], fun S => ∃ T V, I8 V ∧ S = [Ov T V]]) underlying58 (FieldsO.cons rfl (Opens.int underlying5) (FieldsO.cons rfl A33 (FieldsO.cons rfl A36 (FieldsO.nil ZbK))))).mono fun S ⟨l, q, A⟩ => by
  match l,q with
  |[a,b,c],⟨⟨z,u,M⟩,⟨T,L,B,i⟩,⟨o,V,d,j⟩,_⟩=>
   have u:=bounds_u8 u;obtain⟨m,rfl⟩:∃m:Nat,z=(m:Int):=⟨z.toNat,by omega⟩;exact⟨⟨m,T,L,o,V⟩,⟨by show m<256;omega,B,d⟩,by rw[A,M,i,j];rfl⟩
theorem A34:Opens prog 63 λS=>∃x y:Rw,x.Ok/\y.Ok/\S=rwX x++rwX y:=
 (PD (c := 3) underlying63 ZbK ZbK A5f).mono fun S ⟨B, q, A, K⟩ => by
  match B,q with
  |[a,b],_=>
   obtain⟨x,C,ex⟩:=A a ZbV;obtain⟨y,N,P⟩:=A b ZbV;exact⟨x,y,C,N,by rw[K,ex,P];simp⟩
theorem A5N{T:Nat}{V:List Int}(h:(Ov T V).rel s z):V.length<=9223372036854775807:=by
 obtain⟨A,c,_,q,K,_⟩:=h;rw[Yap]at q;have:c<=maxLen:=K;simp only[maxLen]at this;omega
theorem A1T{x y:Rw}(h:(AQ (rwX x++rwX y)).rel s z):x.V.length<=9223372036854775807/\y.V.length<=9223372036854775807:=by
 obtain⟨f,_,_,K⟩:=h;obtain⟨u,_,_,Y⟩:=K 2 ZbV;obtain⟨q,_,_,n⟩:=K 5 ZbV;exact⟨A5N (T:=x.T') Y,A5N (T:=y.T') n⟩
end
