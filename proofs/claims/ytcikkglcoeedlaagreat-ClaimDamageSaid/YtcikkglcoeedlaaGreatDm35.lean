/- Part 35. No condition. -/
import Derived.Test.YtcikkglcoeedlaaGreatDm29
import Derived.Test.YtcikkglcoeedlaaGreatDm34
set_option linter.all false
set_option maxRecDepth 100000
namespace Go.Proofs.YtcikkglcoeedlaaGreat
open _root_.Go.Proofs.Tryz
variable{s:GS}{z:Value}
section
open Go.RowKit Go.Deep Go.ChangeShapes Go.WideShapes
structure Rw where
 kd:Nat
 T:Nat
 L:List (Nat×List (Nat->Int))
 T':Nat
 V:List Int
structure Rw.Ok(x:Rw):Prop where
 kd:x.kd<256
 L:TM x.L
 V:I8 x.V
abbrev rwX(x:Rw):List D:=Hr x.T x.T' x.kd x.L x.V
theorem A3t:Opens prog 55 λS=>∃T L,TM L/\S=[rwD T L]:=
 (Opens.slice (c := 1) underlying55 ZbG ZbC A3u fun S ⟨T, X, _, h⟩ => by rw [h]; rfl).mono fun S ⟨T, B, q, A⟩ => by
  obtain⟨L,K,Q⟩:=Rc (α:=Nat×List (Nat->Int)) (p:=λx=>A4e x.2) (f:=λx=>[r5D x.1 x.2]) (rows:=B) λr Y=>by
   obtain⟨T,X,h,e⟩:=q r Y;exact⟨(T,X),h,e⟩
  exact⟨T,L,K,by rw[A,Q]⟩
theorem A3v:Opens prog 56 λS=>∃T V,I8 V/\S=[OR T V]:=
 (Opens.slice (c := 1) underlying56 ZbG ZbC (Opens.int underlying64) fun S ⟨r, _, h⟩ => by rw [h]; rfl).mono fun S ⟨T, B, q, A⟩ => by
  obtain⟨X,K,Q⟩:=Rc (α:=Int) (p:=λz=>-128<=z/\z<=127) (f:=λz=>[ex (.int .i8 z)]) (rows:=B) λr Y=>by
   obtain⟨z,n,e⟩:=q r Y;exact⟨z,bounds_i8 n,e⟩
  exact⟨T,X,K,by rw[A,Q]⟩
theorem A5M:Opens prog 58 λS=>∃x:Rw,x.Ok/\S=rwX x:=
 (Opens.struct (Rs := [fun S => ∃ z, (Lit.int .u8 z).wf = true ∧ S = [ex (.int .u8 z)], fun S => ∃ T L, TM L ∧ S = [rwD T L], fun S => ∃ T V, I8 V ∧ S = [OR T V]]) underlying58 (FieldsO.cons rfl (Opens.int underlying5) (FieldsO.cons rfl A3t (FieldsO.cons rfl A3v (FieldsO.nil ZbG))))).mono fun S ⟨l, q, A⟩ => by
  match l,q with
  |[a,b,c],⟨⟨z,n,B⟩,⟨T,L,s,w⟩,⟨t,V,f,C⟩,_⟩=>
   have n:=bounds_u8 n;obtain⟨m,rfl⟩:∃m:Nat,z=(m:Int):=⟨z.toNat,by omega⟩;exact⟨⟨m,T,L,t,V⟩,⟨by show m<256;omega,s,f⟩,by rw[A,B,w,C];rfl⟩
theorem Aaz{T:Nat}{V:List Int}(h:(OR T V).rel s z):V.length<=9223372036854775807:=by
 obtain⟨A,c,_,q,K,_⟩:=h;rw[Yap]at q;have:c<=maxLen:=K;simp only[maxLen]at this;omega
theorem A9Y{x:Rw}(h:(AP (rwX x)).rel s z):x.V.length<=9223372036854775807:=by
 obtain⟨f,_,_,K⟩:=h;obtain⟨u,_,_,Q⟩:=K 2 ZbR;exact Aaz (T:=x.T') Q
end
