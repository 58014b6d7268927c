/- Part 38 of the proof of claimClashes_holds. No condition. -/
import Derived.Test.YtcikkglcoeedlaaGreatCx19
import Derived.Test.YtcikkglcoeedlaaGreatCx31
import Derived.Test.YtcikkglcoeedlaaGreatCx33
import Derived.Test.YtcikkglcoeedlaaGreatCx37
set_option linter.unusedSimpArgs false
set_option linter.unusedVariables false
set_option maxRecDepth 100000
set_option maxHeartbeats 4000000
namespace Go.Proofs.YtcikkglcoeedlaaGreat
section
open Go.RowKit
theorem Uq(x y:Rw)(kq:Int)(C:x.Ok)(N:y.Ok)(xb:x.V.length<=9223372036854775807)(xj:y.V.length<=9223372036854775807)(xl:-9223372036854775808<=kq/\kq<=9223372036854775807):Abs Tryz.prog 7 [AL (rwX x++rwX y),ex (.int .i64 kq)] (ex (.bool true)):=by
 have m1:=Ku x.T x.T' x.kd C.kd x.L C.L x.V C.V xb;have m2:=Ku y.T y.T' y.kd N.kd y.L N.L y.V N.V xj;obtain⟨kind,P,n,d,r,o,Q,s,b,e,B⟩:=OO x.kd x.L x.V C.V;obtain⟨S,f,G,v,O,k,Q',c,K,U,g⟩:=OO y.kd y.L y.V N.V;rw[e,KI]at m1;rw[U,KI]at m2;have R:=B.pb.psz9;have xa:=g.pb.psz9;have h:P.length<=1000000:=Nat.le_trans B.pb.len ZbA;have W:f.length<=1000000:=Nat.le_trans g.pb.len ZbA;have F:s.length<=1000000:=Nat.le_trans B.sb ZbA;have i:c.length<=1000000:=Nat.le_trans g.sb ZbA;have E:b.length<=1000000:=Nat.le_trans B.bb ZbA;have a:K.length<=1000000:=Nat.le_trans g.bb ZbA;obtain⟨l,L⟩:∃l,l=rQ Q:=⟨_,rfl⟩;obtain⟨q,xe⟩:∃l,l=rQ Q':=⟨_,rfl⟩;rw[<-L]at m1;rw[<-xe]at m2;have p:Abs Tryz.prog 71 [AL (IV kind P n d r o l s b),AL (IV S f G v O k q c K)] (ex (.bool (clhB (decide (CC P f=0)) kind S n G d v r O s c b K))):=Ik kind S P f n G d v r O o k l q s c b K R xa h W F i E a _ _ _ _ rfl rfl rfl rfl;have a2:Abs Tryz.prog 71 [AL (IV S f G v O k q c K),AL (IV kind P n d r o l s b)] (ex (.bool (clhB (decide (CC f P=0)) S kind G n v d O r c s K b))):=Ik S kind f P G n v d O r k o q l c s K b xa R W h i F a E _ _ _ _ rfl rfl rfl rfl;have a3:Abs Tryz.prog 71 [AL (IV kind P n d r o l s b),AL (IV kind P n d r o l s b)] (ex (.bool (clhB (decide (CC P P=0)) kind kind n n d d r r s s b b))):=Ik kind kind P P n n d d r r o o l l s s b b R R h h F F E E _ _ _ _ rfl rfl rfl rfl;have t:=Ng kind S P f n G d v r O o k l q s c b K F i E a _ _ _ _ rfl rfl rfl rfl;have m:=Ng S kind f P G n v d O r k o q l c s K b i F a E _ _ _ _ rfl rfl rfl rfl;rw[XV B g]at t;rw[XV g B]at m;rw[A1e B]at a3;have xc:=λ(u:0<=Fi kq kind n r (b.length:Nat)) A=>XW (kq:=kq) B g (decide (CC P f=0)) u A;have xd:=λ(u:0<=Fi kq S G O (K.length:Nat)) A=>XW (kq:=kq) g B (decide (CC f P=0)) u A;have z:decide (CC f P=0)=decide (CC P f=0):=by rw[Ia,Ia,Vu]
 rw[z]at a2 m xd;have J:=Ke p a2;have k2:=Wo t m;have k3:=Ke a2 p;have k4:=Ke a3 a3;obtain⟨X,H⟩:∃X,X=clhB (decide (CC P f=0)) kind S n G d v r O s c b K:=⟨_,rfl⟩;obtain⟨Y,T⟩:∃Y,Y=clhB (decide (CC P f=0)) S kind G n v d O r c s K b:=⟨_,rfl⟩;rw[<-H,<-T]at J k2 k3 xc xd;rw[Bool.or_comm Y X]at k3 xd;obtain⟨Z,hZ⟩:∃Z,Z=(X||Y):=⟨_,rfl⟩;rw[<-hZ]at J k2 k3 xc xd;rw[show(false||false)=false from rfl]at k4;have z0:∀(kind:Int) (P:List Tm) (n d r:Int) (o:List (Nat->Int)) (l:List (List RTm)) (s:List Int) (b:List (Nat->RQ×RQ)),DsLe [AL [ex (.int .i64 kq),nl,nl],AL (IV kind P n d r o l s b)] [AL [ex (.int .i64 kq),nl,EZ []],AL (Ef ⟨kind,P.map Em,n,d,r,o,l,s,b⟩)]:=λ_ _ _ _ _ _ _ _ _=>DsLe.cons (Cz (DsLe.cons (D.le.refl _) (DsLe.cons (D.le.refl _) (DsLe.cons Bd DsLe.nil)))) (DsLe.cons (by rw[KI];exact D.le.refl _) DsLe.nil);have b1:=(KM kq nl [] ⟨kind,P.map Em,n,d,r,o,l,s,b⟩ E).arg (z0 _ _ _ _ _ _ _ _ _);have w:=(KM kq nl [] ⟨S,f.map Em,G,v,O,k,q,c,K⟩ a).arg (z0 _ _ _ _ _ _ _ _ _);obtain⟨L1,xh⟩:∃L1,L1=Gr kq kind n r (b.length:Nat):=⟨_,rfl⟩;obtain⟨j,xf⟩:∃j,j=Fi kq kind n r (b.length:Nat):=⟨_,rfl⟩;obtain⟨L2,xi⟩:∃L2,L2=Gr kq S G O (K.length:Nat):=⟨_,rfl⟩;obtain⟨H2,xg⟩:∃H2,H2=Fi kq S G O (K.length:Nat):=⟨_,rfl⟩
 dsimp only at b1 w
 rw[<-xh,<-xf]at b1;rw[<-xi,<-xg]at w;rw[<-xf,<-xi]at xc;rw[<-xg,<-xh]at xd;obtain⟨C1,xk⟩:∃C1,C1=IV kind P n d r o l s b:=⟨_,rfl⟩;clear p a2 a3 t m e U B g H T hZ xh xi xf xg xk C1;have ce:=Sy;refine Ab Tryz.func7 λM=>?_;rw[Tryz.ntmps7];refine Go ?_;refine Dy 8 ?_;refine CY ?_;cases Z
 .refine Go ?_
  by_cases u:j ≥ 0
  .rw [decide_eq_true u]
   refine Go ?_;by_cases A:L2>j
   .exact absurd (xc u A) ZbA
   .rw [decide_eq_false A]
    exact Zbo
  .rw [decide_eq_false u]
   exact Zbo
 .refine Go ?_
  by_cases u:j ≥ 0
  .rw [decide_eq_true u]
   refine Go ?_;by_cases A:L2>j
   .rw [decide_eq_true A]
    exact ZeE
   .rw [decide_eq_false A]
    exact Zbp
  .rw [decide_eq_false u]
   exact Zbp
open Go.ChangeAt Go.ChangeShapes Go.Deep Go.Joins Go.WideShapes
theorem Kk(os:Os)(xg:os.Started)(H:Type)(enc:TypeId×Value->H) :
  ReturnsInHanded {} Tryz.checked os 7 .any (Rows.claimClashesSpec.pre6 enc Tryz.prog Tryz.f7 Rows.claimClashesRow.domain false) (Rows.claimClashesSpec.post enc Tryz.prog Tryz.f7 false true false false):=by
 refine returnsInHanded_of_change (C := Tryz.checked) own xg Zbz Tryz.func7
  (ChangeSpec.witness6 (enc:=enc) (C:=Tryz.checked) false ⟨#[],#[.agg #[.int .u8 0,.slice none 0 0,.slice none 0 0,.int .u8 0,.slice none 0 0,.slice none 0 0],.int .i64 0],[]⟩ 8 Zbz Zbz Zbz Zbz) ?_
 intro W base args R gs xm xi F xn _;have GX:∀(j:Nat) t v,Tryz.f7.params[j]? = some t->args[j]? = some v->Value.okWide Tryz.prog W .any base t v:=xi;have xe:=F;obtain⟨p,q,xh,Q,rfl,O,n⟩:=F;have I:DataW.TrodAll enc Tryz.prog W 0 (λ_=>true) true Tryz.f7.params.toList args.toList R p:=xh;rw[Tryz.params7]at I GX;obtain⟨Y,xo,T,xc,p0,q0,xb,rfl,rfl,g,U⟩:=trodAll_cons I;obtain⟨l,vs1,J,xd,X,K,rfl,rfl,rfl,u,S⟩:=trodAll_cons U;obtain⟨rfl,rfl,rfl⟩:=trodAll_nil S;obtain rfl:args=#[Y,l]:=by cases args;simp_all
 obtain⟨rfl,rfl⟩:=trodVars_none Q;have w:=g;have xk:∀x∈p0,x.block<W.heap.size:=by obtain⟨m,s⟩:=w;exact DataW.trod_lt m _ _ _ s
 have i:=u;have xl:∀x∈X,x.block<W.heap.size:=by obtain⟨m,s⟩:=i;exact DataW.trod_lt m _ _ _ s
 obtain⟨r,y0,z,P,f⟩:∃x y:Rw,x.Ok/\y.Ok/\(AL (rwX x++rwX y)).rel (GS.all W) Y:=by
  obtain⟨Z,rfl,_⟩:=Sh Tryz.underlying63 (GX 0 63 Y rfl rfl);obtain⟨xa,A⟩:=g;obtain⟨R,⟨x,y,C,N,rfl⟩,G⟩:=YQ _ _ _ _ _ _ _ _ _ A;exact⟨x,y,C,N,G.agg rfl λb k h=>h⟩
 obtain⟨M,rfl,E,_,xj⟩:=open_int Tryz.underlying3 (GX 1 3 l rfl rfl) u;have d:(ex (.int .i64 M)).rel (GS.all W) (.int .i64 M):=rfl;clear xh xi;refine((Uq r y0 M z P (Xt f).1 (Xt f).2 (bounds_i64 xj)).2 (GS.all W) [Y,(.int .i64 M)] (ZS W) rfl (λk B=>?_)).mono λe W' ⟨v,a,c,V,L,o⟩=>?_
 .match k,B with
  |0,_=>exact f
  |1,_=>exact d
 obtain rfl:v=.bool true:=o;subst a;have xf:Below W.heap.size W W':=V▸L.ext;exact⟨_,rfl,_,_,_,[],_,[],xe,trodAll_mk1 (shut_bool Tryz.underlying4 _),(trodAll_cons_mk (Below.trod XN Zbz (of_decide_eq_true Zbz) w xf xk) (trodAll_cons_mk (Below.trod XN Zbz (of_decide_eq_true Zbz) i xf xl) trodAll_mk0)),rfl,xf.frame _,λh=>by cases h⟩
theorem Pr:Tryz.prog.unfollowed 7=Rows.claimClashesRow.unfollowed:=by kernel_rfl
theorem Ps:Tryz.prog.recurses 7=Rows.claimClashesRow.recurses:=by kernel_rfl
theorem Px:Tryz.prog.inPlace 7=Rows.claimClashesRow.inPlace:=by kernel_rfl
theorem Pt:Tryz.prog.varsNamed 7=Rows.claimClashesRow.named:=by kernel_rfl
theorem Pv:laidOutB Tryz.prog=true:=by kernel_rfl
theorem Pu:mapsRowed Tryz.prog=true:=by kernel_rfl
theorem Pw:joinedFacts Tryz.prog 7 Tryz.f7 Rows.claimClashesSpec Rows.claimClashesRow=true:=by
 unfold joinedFacts;rw[Pr,Ps,Px,Pt,Pv,Pu]
 kernel_rfl
theorem Ln:Rows.claimClashesRow.holds Tryz.pinned (OpenSpec.ofChange Rows.claimClashesSpec):=
 OpenClaim.holds_of_wide 7 Tryz.f7 rfl rfl rfl rfl rfl rfl rfl ⟨rfl, rfl, rfl, rfl, rfl⟩ rfl rfl rfl rfl rfl Zbz Tryz.func7 Pw
  (of_decide_eq_true Zbz) (by unfold Func.isWrapper;first | (rw[if_pos (by decide +kernel)];kernel_rfl) | (rw[if_neg (by decide +kernel)];exact⟨rfl,rfl⟩))
  (λos a H n _=>Kk os a H n)
theorem claimClashes_holds:Rows.ClaimClashesSaid:=Ln
#print axioms claimClashes_holds
end
end Go.Proofs.YtcikkglcoeedlaaGreat
