/- Part 38 of the proof of claimBack_holds. No condition. -/
import Derived.Test.YtcikkglcoeedlaaGreatBk18
import Derived.Test.YtcikkglcoeedlaaGreatBk26
import Derived.Test.YtcikkglcoeedlaaGreatBk32
import Derived.Test.YtcikkglcoeedlaaGreatBk33
import Derived.Test.YtcikkglcoeedlaaGreatBk37
set_option linter.unusedSimpArgs false
set_option linter.unusedVariables false
set_option maxRecDepth 100000
set_option maxHeartbeats 4000000
namespace Go.Proofs.YtcikkglcoeedlaaGreat
open _root_.Go.Proofs.Tryz
section
open Go.RowKit
open Classical
theorem A5V(x:Rw)(E:x.Ok)(I:x.V.length<=9223372036854775807):Abs prog 9 [AP (rwX x)] (ex (.bool true)):=by
 have l:=A3M x.T x.T' x.kd E.kd x.L E.L x.V E.V I;have q:=A7s x.kd x.L x.V E.V;generalize RL x.kd x.L x.V=f at l q;have A:=q.n;have G:=q.pos;have L:=SP f q.z ZbD;rw[q.enc]at L;have N:Byt (ED f):=⟨λz o=>OV f z o,by omega⟩;have B:=A1i 5 (ED f) N ZbD;rw[q.dec]at B;have Z:=Pb f.k q.z.k;rw[Yak q.p.1.1]at Z;have K:=A3u f.k f.c q.z.k q.z.c;rw[Yak q.p.1]at K;have C:=SO f.k f.c f.e q.z.k q.z.c q.z.e;rw[Yak q.p]at C;have J:=UE f f q.z.fw q.z.fw ZbD ZbD;rw[Yak rfl]at J;have u:=VK;obtain⟨b,F⟩:∃b,b=ED f:=⟨_,rfl⟩;rw[<-F]at L B G;have j:b.length<=39000:=by rw[F];exact A
 clear F q A N;obtain⟨⟨M,O,d⟩,c,e⟩:=f;refine Ab func9 λv=>?_;rw[ntmps9];exact Zfu
open Go.ChangeAt Go.ChangeShapes Go.Deep Go.Joins Go.WideShapes
theorem OZ(os:Os)(l:os.Started)(H:Type)(enc:TypeId×Value->H) :
  ReturnsInHanded {} Tryz.checked os 9 .any (Rows.claimBackSpec.pre6 enc prog Tryz.f9 Rows.claimBackRow.domain false) (Rows.claimBackSpec.post enc prog Tryz.f9 false true false false):=by
 refine returnsInHanded_of_change (C := Tryz.checked) own l ZbI func9
  (ChangeSpec.witness6 (enc:=enc) (C:=Tryz.checked) false ⟨#[],#[.agg #[.int .u8 0,.slice none 0 0,.slice none 0 0]],[]⟩ 8 ZbI ZbI ZbI ZbI) ?_
 intro W base args R U T u L xa _;have IR:∀(j:Nat) t v,Tryz.f9.params[j]? = some t->args[j]? = some v->Value.okWide prog W .any base t v:=u;have i:=L;obtain⟨p,q,s,K,rfl,Q,f⟩:=L;have O:DataW.TrodAll enc prog W 0 (λ_=>true) true Tryz.f9.params.toList args.toList R p:=s;rw[Tryz.params9]at O IR;obtain⟨S,xb,X,Y,z,q0,g,rfl,rfl,c,n⟩:=trodAll_cons O;obtain⟨rfl,rfl,rfl⟩:=trodAll_nil n;obtain rfl:args=#[S]:=by cases args;simp_all
 obtain⟨rfl,rfl⟩:=trodVars_none K;have V:=c;have y:∀x∈z,x.block<W.heap.size:=by obtain⟨m,I⟩:=V;exact DataW.trod_lt m _ _ _ I
 obtain⟨N,Z,M⟩:∃x:Rw,x.Ok/\(AP (rwX x)).rel (GS.all W) S:=by
  obtain⟨B,rfl,_⟩:=okWide_struct underlying58 (IR 0 58 S rfl rfl);obtain⟨a,G⟩:=c;obtain⟨R,⟨x,E,rfl⟩,P⟩:=A53 _ _ _ _ _ _ _ _ _ G;exact⟨x,E,P.agg rfl λb k h=>h⟩
 clear s u;refine((A5V N Z (A98 M)).2 (GS.all W) [S] (A3O W) rfl (λk C=>?_)).mono λe w ⟨v,A,F,d,J,r⟩=>?_
 .match k,C with
  |0,_=>exact M
 obtain rfl:v=.bool true:=r;subst A;have o:Below W.heap.size W w:=d▸J.ext;exact⟨_,rfl,_,_,_,[],_,[],i,trodAll_mk1 (shut_bool underlying4 _),(trodAll_cons_mk (Below.trod A7x ZbI (YdG ZbI) V o y) trodAll_mk0),rfl,o.frame _,λh=>by cases h⟩
theorem Yt:Tryz.prog.unfollowed 9=Rows.claimBackRow.unfollowed:=by kernel_rfl
theorem Yu:Tryz.prog.recurses 9=Rows.claimBackRow.recurses:=by kernel_rfl
theorem YA:Tryz.prog.inPlace 9=Rows.claimBackRow.inPlace:=by kernel_rfl
theorem Yw:Tryz.prog.varsNamed 9=Rows.claimBackRow.named:=by kernel_rfl
theorem Yy:laidOutB prog=true:=by kernel_rfl
theorem Yx:mapsRowed prog=true:=by kernel_rfl
theorem Yz:joinedFacts prog 9 Tryz.f9 Rows.claimBackSpec Rows.claimBackRow=true:=by
 unfold joinedFacts;rw[Yt,Yu,YA,Yw,Yy,Yx]
 kernel_rfl
theorem Su:Rows.claimBackRow.holds Tryz.pinned (OpenSpec.ofChange Rows.claimBackSpec):=
 OpenClaim.holds_of_wide 9 Tryz.f9 rfl rfl rfl rfl rfl rfl rfl ⟨rfl, rfl, rfl, rfl, rfl⟩ rfl rfl rfl rfl rfl ZbI func9 Yz
  (YdG ZbI) (by unfold Func.isWrapper;first | (rw[Yan (by decide +kernel)];kernel_rfl) | (rw[Yai (by decide +kernel)];exact⟨rfl,rfl⟩))
  (λos Q H K _=>OZ os Q H K)
theorem claimBack_holds:Rows.ClaimBackSaid:=Su
#print axioms claimBack_holds
end
