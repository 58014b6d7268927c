/- Part 38 of the proof of claimDifferent_holds. No condition. -/
import Derived.Test.YtcikkglcoeedlaaGreatDf18
import Derived.Test.YtcikkglcoeedlaaGreatDf20
import Derived.Test.YtcikkglcoeedlaaGreatDf26
import Derived.Test.YtcikkglcoeedlaaGreatDf29
import Derived.Test.YtcikkglcoeedlaaGreatDf32
import Derived.Test.YtcikkglcoeedlaaGreatDf33
import Derived.Test.YtcikkglcoeedlaaGreatDf37
set_option linter.all false
set_option maxRecDepth 100000
set_option maxHeartbeats 4000000
namespace Go.Proofs.YtcikkglcoeedlaaGreat
open _root_.Go.Proofs.Tryz
section
open Go.RowKit
theorem A0D(x y:Rw)(Z I:Int)(C:x.Ok)(N:y.Ok)(xa:x.V.length<=9223372036854775807)(xf:y.V.length<=9223372036854775807)(d:-128<=Z/\Z<=127)(xb:-128<=I/\I<=127):Abs prog 5 [AQ (rwX x++rwX y),AQ [ex (.int .i8 Z),ex (.int .i8 I)]] (eB true):=by
 have c:=UV x.T x.T' x.kd C.kd x.L C.L x.V C.V xa;have l:=UV y.T y.T' y.kd N.kd y.L N.L y.V N.V xf;have xc:=A2a x.kd x.L x.V C.V;have xd:=A2a y.kd y.L y.V N.V;obtain⟨P1,Q,e⟩:=Ya x.kd x.L x.V C.V;obtain⟨P2,W,i⟩:=Ya y.kd y.L y.V N.V;generalize KT x.kd x.L x.V=f at c xc Q e;generalize KT y.kd y.L y.V=g at l xd W i;have L:=xc.n;have M:=xd.n;have r:=YU d Q L;have j:=YU xb W M;have i1:IW Z:=by unfold IW;omega
 have i2:IW I:=by unfold IW;omega
 have E:=xc.z.c.cw;have G:=xd.z.c.cw;have V:=Xe Z (P1.map DK) f.c.o i1 (by rw[<-Q];exact E.p) E.o ZbG;have k:=Xe I (P2.map DK) g.c.o i2 (by rw[<-W];exact G.p) G.o ZbG;have a3:=A6s Z (P1.map DK) f.c.o i1 (by rw[<-Q];exact E.p) E.o ZbG;have m:=xc.b.c;have O:=xd.b.c
 have xe:((decide (Z=I)&&Hg P1 P2)&&decide (NO f.c.o g.c.o))=decide (IV Z (P1.map DK) f.c.o=IV I (P2.map DK) g.c.o):=by
  rw[YcJ];simp only[Yam,Yba,Ix];exact(A6c (by unfold IB;omega) (by unfold IB;omega) (by rw[<-Q];exact m.p) (by rw[<-W];exact O.p) m.o O.o).symm
 have K:=Np Z f.c;have J:=Np I g.c;rw[Q]at K;rw[W]at J;rw[<-Jd]at K J V k a3;have R:=A3O P1 P2;have T:=A0W f.c.o g.c.o ZbG ZbG;have q:=Ti f xc.z ZbG;have A:=Ti g xd.z ZbG;rw[xc.enc]at q;rw[xd.enc]at A;have H:=UX f g xc.z.fw xd.z.fw ZbG ZbG;rw[show @decide (Er f=Er g) _=decide (Er f=Er g)from YcL.2 YdG]at H;have v:=WX f.k xc.z.k (by have:=L;simp only[Er,Yaa]at this;omega);have v2:=WX g.k xd.z.k (by have:=M;simp only[Er,Yaa]at this;omega);rw[A3i,Yan xc.p.1.1]at v;rw[A3i,Yan xd.p.1.1]at v2;have a:=Wj f.k xc.z.k.cw [] (by have:=L;simp only[Er,Yaa]at this;simp only[Ybk];omega);have S:=Wj g.k xd.z.k.cw [] (by have:=M;simp only[Er,Yaa]at this;simp only[Ybk];omega);rw[Ycs]at a S;have ce:=VY;obtain⟨u,P⟩:∃b,b=Er f:=⟨_,rfl⟩;obtain⟨o,U⟩:∃b,b=Er g:=⟨_,rfl⟩;obtain⟨K1,xi⟩:∃b,b=FV f.k:=⟨_,rfl⟩;obtain⟨K2,xj⟩:∃b,b=FV g.k:=⟨_,rfl⟩;obtain⟨n,xg⟩:∃b,b=IV Z (P1.map DK) f.c.o:=⟨_,rfl⟩;obtain⟨s,xh⟩:∃b,b=IV I (P2.map DK) g.c.o:=⟨_,rfl⟩;have xo:∀z∈u,z<256:=by rw[P];exact Pb f
 have xp:∀z∈o,z<256:=by rw[U];exact Pb g
 have xk:∀z∈K1,z<256:=by rw[xi];exact A0E f.k
 have xl:∀z∈K2,z<256:=by rw[xj];exact A0E g.k
 have xm:∀z∈n,z<256:=by rw[xg];exact B8.app (B8.app (IH _) (Nr _)) (Nt _)
 have xn:∀z∈s,z<256:=by rw[xh];exact B8.app (B8.app (IH _) (Nr _)) (Nt _)
 rw[<-P]at q H;rw[<-U]at A H;rw[<-xi]at v a;rw[<-xj]at v2 S;rw[<-xg,<-xh]at xe;rw[<-xg]at V a3;rw[<-xh]at k;clear P U xi xj xg xh xc xd E G m O;refine Ab func5 λw=>?_;rw[ntmps5];refine Go ?_;refine Dy 8 ?_;refine ZfU ?_;refine Dy 14 ?_;refine Dw ?_
 first | refine Sf ?_ | refine Oq (ao rfl) (ao rfl) rfl (Aa rfl) rfl rfl rfl ?_
 first | refine Sf ?_ | refine Oq (ao rfl) (ao rfl) rfl (Aa rfl) rfl rfl rfl ?_
 apply AWl.nil;apply Yn;apply Ah;refine Tp (λt:Bool=>(⟨[(5,.d (eB true)),(6,.ptr 2 0),(7,.ptr 3 0),(8,.ptr 4 0),(9,.ptr 5 0),(10,.d (eB t))],[.dead,.dead,.var 48 ((Eb f).map .d),.var 48 ((Eb g).map .d),.var 67 (([eI Z,BP P1,Du f.c.o]:List D).map .d),.var 67 (([eI I,BP P2,Du g.c.o]:List D).map .d)]⟩:AS)) (λt=>t=decide (n=s)) ?_ ?_
 .generalize Hg P1 P2=X at R xe
  generalize decide (NO f.c.o g.c.o)=Y at T xe;by_cases B:Z=I
  .cases X
   .refine Go ?_
    refine CutS.normal false (by rw[<-xe];simp) ?_;exact Ac ZdX Zdi
   .refine Go ?_
    refine CutS.normal Y (by rw[<-xe];simp[B]) ?_;exact Ac ZdX Zdi
  .refine Go ?_
   refine CutS.normal false (by rw[<-xe];simp[B]) ?_;exact Ac ZdX Zdi
 rintro _ rfl;apply Ah;refine Mn 5 1 rfl rfl rfl ?_;refine Mn 5 1 rfl rfl rfl ?_;refine PJ (λ_=>True) 11 [10,9,8,7,6,5,4,3,2,1,0] (λp=>[.dead,.dead,.var 48 ((Eb f).map .d),.var 48 ((Eb g).map .d),.var 67 (([eI Z,BP P1,Du f.c.o]:List D).map .d),.var 67 (([eI I,BP P2,Du g.c.o]:List D).map .d),.row 5 1 (CR (bif p 3 then K1 else[])),.row 5 1 (CR (bif p 8 then K2 else[]))]) [(0,3),(5,8)] [.own 6,.ptr 2 0,.d (AQ (Ec f.k)),.own 6,.d (TD K1),.own 7,.ptr 3 0,.d (AQ (Ec g.k)),.own 7,.d (TD K2),.d (eB (decide (K1=K2)))] [[],[],[(53,1)],[(52,0),(54,2)],[(55,3)],[],[],[(58,6)],[(57,5),(59,7)],[(60,8)],[(56,4),(61,9)]] [(5,.d (eB true)),(6,.ptr 2 0),(7,.ptr 3 0),(8,.ptr 4 0),(9,.ptr 5 0),(10,.d (eB (decide (n=s))))] [(62,.d (eB (decide (K1=K2)))),(5,.d (eB true)),(6,.ptr 2 0),(7,.ptr 3 0),(8,.ptr 4 0),(9,.ptr 5 0),(10,.d (eB (decide (n=s))))] (GD ZbK) ?_ rfl trivial ?_ ?_ (λ_=>by kernel_rfl) ZbK ZbK (A3y ?_) ZbK ?_ (λ_=>?_)
 .exact ⟨rfl,rfl,rfl,rfl,rfl,rfl,trivial⟩
 .rfl
 .exact λ_=>rfl
 .refine XSteps.c ?_ ?_;exact XTurn.step (XTurn.m (id:=6) (sz:=1) rfl (Aa rfl) (Aa rfl) rfl rfl rfl (λp F=>⟨by show some (Ow.row _ 1 (CR (bif p 3 then _ else _)))=_; rw [F.not 3 rfl]; rfl, rfl⟩) ZbK (λp=>ZbI)) (λ_ _ h=>h)
  refine XSteps.c ?_ ?_;exact XStep.q (λ_ _ h=>h) (λ_=>rfl) (λp F=>by first | exact AE (ah rfl) | exact Ar (ah rfl) (Aa rfl) rfl (Aa rfl) rfl rfl | exact AD | exact Ao);refine XSteps.c ?_ ?_;exact XStep.q (λ_ _ h=>h) (λ_=>rfl) (λp F=>by first | exact AE (ah rfl) | exact Ar (ah rfl) (Aa rfl) rfl (Aa rfl) rfl rfl | exact AD | exact Ao);refine XSteps.c ?_ ?_;exact XTurn.step (XTurn.t (id:=6) rfl a rfl (λp F=>⟨by show some (Ow.row _ 1 (CR (bif p 3 then _ else _)))=_;rw[F.no];rfl,rfl⟩) (λp F=>⟨by show(bif (or (p 3) _)then _ else _)=_;rw[F.no];rfl,rfl⟩) ZbK (λp=>ZbI)) (λ_ _ h=>h);refine XSteps.c ?_ ?_;exact XStep.q (λ_ _ h=>h) (λ_=>rfl) (λp F=>EO (l:=K1) (by show some (slD _ 1 (CR (bif p 3 then _ else _)))=_;rw[F.at 3];rfl) (Aa rfl) (Aa rfl) (Aa rfl));refine XSteps.c ?_ ?_;exact XTurn.step (XTurn.m (id:=7) (sz:=1) rfl (Aa rfl) (Aa rfl) rfl rfl rfl (λp F=>⟨by show some (Ow.row _ 1 (CR (bif p 8 then _ else _)))=_;rw[F.not 8 rfl];rfl,rfl⟩) ZbK (λp=>ZbI)) (λ_ _ h=>h);refine XSteps.c ?_ ?_;exact XStep.q (λ_ _ h=>h) (λ_=>rfl) (λp F=>by first | exact AE (ah rfl) | exact Ar (ah rfl) (Aa rfl) rfl (Aa rfl) rfl rfl | exact AD | exact Ao);refine XSteps.c ?_ ?_;exact XStep.q (λ_ _ h=>h) (λ_=>rfl) (λp F=>by first | exact AE (ah rfl) | exact Ar (ah rfl) (Aa rfl) rfl (Aa rfl) rfl rfl | exact AD | exact Ao);refine XSteps.c ?_ ?_;exact XTurn.step (XTurn.t (id:=7) rfl S rfl (λp F=>⟨by show some (Ow.row _ 1 (CR (bif p 8 then _ else _)))=_;rw[F.no];rfl,rfl⟩) (λp F=>⟨by show(bif (or _ (or (p 8) _))then _ else _)=_;rw[F.no];rfl,rfl⟩) ZbK (λp=>ZbI)) (λ_ _ h=>h);refine XSteps.c ?_ ?_;exact XStep.q (λ_ _ h=>h) (λ_=>rfl) (λp F=>EO (l:=K2) (by show some (slD _ 1 (CR (bif p 8 then _ else _)))=_;rw[F.at 8];rfl) (Aa rfl) (Aa rfl) (Aa rfl));refine XSteps.c ?_ ?_;exact XStep.q (λ_ _ h=>h) (λ_=>rfl) (λp F=>JZ (ah rfl) (ah rfl) xk xl);exact XSteps.nil
 .exact ⟨rfl,rfl,rfl,rfl,rfl,rfl,rfl,trivial⟩
 refine Go ?_;refine Dy 41 ?_;refine Xq AD ?_;refine Xq (AJ (q)) ?_;refine Xq (EO (l:=u) rfl (Aa rfl) (Aa rfl) (Aa rfl)) ?_;refine Xq AD ?_;refine Xq (AJ (A)) ?_;refine Xq (EO (l:=o) rfl (Aa rfl) (Aa rfl) (Aa rfl)) ?_;refine Xq (JZ (ah rfl) (ah rfl) Zcz Zcz) ?_;refine Xq AD ?_;refine Xq AD ?_;refine Xq (AJ (H)) ?_;refine Xq (Px (ah rfl) (ah rfl) ZbK) ?_;refine Xq AL ?_;refine Xg AC ?_;refine Xg AD ?_;refine Xg (AJ (v)) ?_;refine Xg AC ?_;refine Xg AD ?_;refine Xg (AJ (v2)) ?_;refine⟨_,Bb rfl rfl (JZ (ah rfl) (ah rfl) Zcz Zcz),?_⟩;refine⟨_,rfl,?_⟩;refine Xg AL ?_;refine⟨_,Bb rfl rfl (Px (ah rfl) (ah rfl) ZbK),?_⟩;refine⟨_,rfl,?_⟩;refine Xq Ck ?_;refine Xq AL ?_;refine Xg AD ?_;refine Xg (AJ (V)) ?_;refine Xg AD ?_;refine Xg (AJ (k)) ?_;refine⟨_,Bb rfl rfl (JZ (ah rfl) (ah rfl) Zcz Zcz),?_⟩;refine⟨_,rfl,?_⟩;refine Xg AL ?_;refine⟨_,Bb rfl rfl (Px (ah rfl) (ah rfl) ZbK),?_⟩;refine⟨_,rfl,?_⟩;refine Xq Ck ?_;refine Xq AL ?_;refine Xg AD ?_;refine Xg (AJ (V)) ?_;refine Xg AD ?_;refine Xg (AJ (a3)) ?_;refine⟨_,Bb rfl rfl (A3X (ah rfl) (ah rfl) Zcz),?_⟩;refine⟨_,rfl,?_⟩;refine Xq Ck ?_;refine Xq AL ?_;refine Xg AL ?_;refine Xq Ck ?_;refine⟨_,rfl,?_⟩;exact Zfx
theorem A0C(x y:Rw)(k:Nat->Int)(C:x.Ok)(N:y.Ok)(R:x.V.length<=9223372036854775807)(b:y.V.length<=9223372036854775807)(B:∀j,j<2->-128<=k j/\k j<=127):Abs prog 5 [AQ (rwX x++rwX y),AQ [ex (.int .i8 (k 0)),ex (.int .i8 (k 1))]] (eB true):=A0D x y (k 0) (k 1) C N R b (B 0 ZbL) (B 1 ZbL)
open Go.ChangeAt Go.ChangeShapes Go.Deep Go.Joins Go.WideShapes
theorem KD(os:Os)(xi:os.Started)(H:Type)(enc:TypeId×Value->H) :
  ReturnsInHanded {} Tryz.checked os 5 .any (Rows.claimDifferentSpec.pre6 enc prog Tryz.f5 Rows.claimDifferentRow.domain false) (Rows.claimDifferentSpec.post enc prog Tryz.f5 false true false false):=by
 refine returnsInHanded_of_change (C := Tryz.checked) own xi ZbK func5
  (ChangeSpec.witness6 (enc:=enc) (C:=Tryz.checked) false ⟨#[],#[.agg #[.int .u8 0,.slice none 0 0,.slice none 0 0,.int .u8 0,.slice none 0 0,.slice none 0 0],.agg #[.int .i8 0,.int .i8 0]],[]⟩ 8 ZbK ZbK ZbK ZbK) ?_
 intro W base args S gs xn xk M xo _;have IL:∀(j:Nat) t v,Tryz.f5.params[j]? = some t->args[j]? = some v->Value.okWide prog W .any base t v:=xk;have xg:=M;obtain⟨p,q,xj,L,rfl,g,P⟩:=M;have X:DataW.TrodAll enc prog W 0 (λ_=>true) true Tryz.f5.params.toList args.toList S p:=xj;rw[Tryz.params5]at X IL;obtain⟨n,xp,d0,xa,p0,q0,xf,rfl,rfl,d,z⟩:=trodAll_cons X;obtain⟨o,vs1,d1,xc,Z,Y,rfl,rfl,rfl,A,O⟩:=trodAll_cons z;obtain⟨rfl,rfl,rfl⟩:=trodAll_nil O;obtain rfl:args=#[n,o]:=by cases args;simp_all
 obtain⟨rfl,rfl⟩:=trodVars_none L;have i:=d;have xl:∀x∈p0,x.block<W.heap.size:=by obtain⟨m,K⟩:=i;exact DataW.trod_lt m _ _ _ K
 have V:=A;have xm:∀x∈Z,x.block<W.heap.size:=by obtain⟨m,K⟩:=V;exact DataW.trod_lt m _ _ _ K
 obtain⟨Q,y0,xb,xd,l⟩:∃x y:Rw,x.Ok/\y.Ok/\(AQ (rwX x++rwX y)).rel (GS.all W) n:=by
  obtain⟨f,rfl,_⟩:=Nv underlying63 (IL 0 63 n rfl rfl);obtain⟨xe,J⟩:=d;obtain⟨S,⟨x,y,C,N,rfl⟩,T⟩:=A34 _ _ _ _ _ _ _ _ _ J;exact⟨x,y,C,N,T.agg rfl λb k h=>h⟩
 obtain⟨U,s,F⟩:∃x:Nat->Int,(∀j,j<2->(Lit.int .i8 (x j)).wf=true)/\(AQ [ex (.int .i8 (x 0)),ex (.int .i8 (x 1))]).rel (GS.all W) o:=by
  obtain⟨f,rfl,_⟩:=Nv underlying65 (IL 1 65 o rfl rfl);obtain⟨xe,J⟩:=A;obtain⟨S,⟨w,u,c,rfl⟩,T⟩:=A0e underlying65 underlying64 ZbK ZbK _ _ _ _ _ _ _ _ _ J
  match w,u with
  |[z0,R],_=>exact⟨λj=>[z0,R].getD j 0,λj E=>c _ (show[z0,R].getD j 0∈[z0,R]from by rw[Yab,Yac (by simpa using E)];exact Ybm _),T.agg rfl λb k h=>h⟩
 clear xj xk;refine((A0C Q y0 U xb xd (A1T l).1 (A1T l).2 (λj E=>bounds_i8 (s j E))).2 (GS.all W) [n,o] (A43 W) rfl (λk B=>?_)).mono λe W' ⟨v,a,G,c,I,r⟩=>?_
 .match k,B with
  |0,_=>exact l
  |1,_=>exact F
 obtain rfl:v=.bool true:=r;subst a;have xh:Below W.heap.size W W':=c▸I.ext;exact⟨_,rfl,_,_,_,[],_,[],xg,trodAll_mk1 (shut_bool underlying4 _),(trodAll_cons_mk (Below.trod A2f ZbK (Yex ZbK) i xh xl) (trodAll_cons_mk (Below.trod A2f ZbK (Yex ZbK) V xh xm) trodAll_mk0)),rfl,xh.frame _,λh=>by cases h⟩
theorem Pe:Tryz.prog.unfollowed 5=Rows.claimDifferentRow.unfollowed:=by kernel_rfl
theorem Pf:Tryz.prog.recurses 5=Rows.claimDifferentRow.recurses:=by kernel_rfl
theorem Pk:Tryz.prog.inPlace 5=Rows.claimDifferentRow.inPlace:=by kernel_rfl
theorem Pg:Tryz.prog.varsNamed 5=Rows.claimDifferentRow.named:=by kernel_rfl
theorem Pi:laidOutB prog=true:=by kernel_rfl
theorem Ph:mapsRowed prog=true:=by kernel_rfl
theorem Pj:joinedFacts prog 5 Tryz.f5 Rows.claimDifferentSpec Rows.claimDifferentRow=true:=by
 unfold joinedFacts;rw[Pe,Pf,Pk,Pg,Pi,Ph]
 kernel_rfl
theorem Ms:Rows.claimDifferentRow.holds Tryz.pinned (OpenSpec.ofChange Rows.claimDifferentSpec):=
 OpenClaim.holds_of_wide 5 Tryz.f5 rfl rfl rfl rfl rfl rfl rfl ⟨rfl, rfl, rfl, rfl, rfl⟩ rfl rfl rfl rfl rfl ZbK func5 Pj
  (Yex ZbK) (by unfold Func.isWrapper;first | (rw[Yan (by decide +kernel)];kernel_rfl) | (rw[Yai (by decide +kernel)];exact⟨rfl,rfl⟩))
  (λos l H K _=>KD os l H K)
theorem claimDifferent_holds:Rows.ClaimDifferentSaid:=Ms
#print axioms claimDifferent_holds
end
