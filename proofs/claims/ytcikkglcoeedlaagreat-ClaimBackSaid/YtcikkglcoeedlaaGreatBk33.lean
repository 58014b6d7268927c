/- Part 33. No condition. -/
import Derived.Test.YtcikkglcoeedlaaGreatBk30
import Derived.Test.YtcikkglcoeedlaaGreatBk32
set_option linter.unusedSimpArgs false
set_option linter.unusedVariables false
set_option maxRecDepth 100000
namespace Go.Proofs.YtcikkglcoeedlaaGreat
open _root_.Go.Proofs.Tryz
variable{uL:Fct}
section
open Go.RowKit
open Classical
noncomputable def RL (N:Nat) (L:List (Nat×List (Nat->Int))) (V:List Int):Fct:=
 ⟨GN L V,KT N L V,GO (Cx N L V).kind (AZ L) V (GN L V).e.length (Cx N L V).l.length⟩
theorem A5i(N:Nat)(L:List (Nat×List (Nat->Int)))(V:List Int):El (RL N L V)=El (XM N L V):=by
 unfold El RL XM
 dsimp only
 rw[A5k,A5j]
theorem A3M(T o:Nat)(N:Nat)(a:N<256)(L:List (Nat×List (Nat->Int)))(p:Tc L)(V:List Int)(e:I8 V)(J:V.length<=9223372036854775807):Abs prog 15 [AP (He T o N L V)] (AP (El (RL N L V))):=by
 rw[A5i];exact A6q T o N a L p V e J
structure FOk(f:Fct):Prop where
 p:PW f.k f.c f.e
 z:FZ f
 b:FB f
 n:(ED f).length<=39000
theorem FOk.enc(h:FOk uL):To uL=ED uL:=Yan h.p
theorem FOk.read(h:FOk uL):OU G0 (ED uL)=some (uL,[]):=by
 have:=A5D (G:=G0) A8A uL h.b [];rwa [YbD]at this
theorem FOk.pos(h:FOk uL):0<(ED uL).length:=by
 unfold ED FS;simp only[Yaa];have:0<(Bo uL.k.n).length:=HE _;omega
theorem FOk.dec(h:FOk uL):OX To (ED uL)=FY [AP (El uL),ex (.int .i64 0)]:=by
 have e:NC To (ED uL)=some uL:=by
  unfold NC;rw[h.read]
  dsimp only
  rw[Yan h.enc]
 simp[OX,A3d,A3e,e]
theorem A7s(N:Nat)(L:List (Nat×List (Nat->Int)))(V:List Int)(e:I8 V):FOk (RL N L V):=by
 obtain⟨k,u,m,T,B⟩:=A5h L V;obtain⟨A,E⟩:=A2Z N L V e;have J:=A1Y N L V;obtain⟨Z,s⟩:=A7U (K:=GN L V) (C:=KT N L V) (m:=(GN L V).e.length) (c:=(Cx N L V).l.length) e rfl rfl B rfl J (κ:=(Cx N L V).kind) rfl A.kd (Nl L);refine⟨⟨⟨k,E _ rfl⟩,Z⟩,⟨u,A.z e,s.z e⟩,⟨m,A.cb e,s.cb e⟩,?_⟩;have a:=A.len e;have b:=s.len e;unfold ED;simp only[Yaa];show(FS (GN L V)).length+(Ii (KT N L V)).length+(JU (GO _ _ _ _ _)).length<=_;omega
end
