/- Part 39 of the proof of claimAnswers_holds. No condition. -/
import Derived.Test.YtcikkglcoeedlaaGreatCa20
import Derived.Test.YtcikkglcoeedlaaGreatCa31
import Derived.Test.YtcikkglcoeedlaaGreatCa32
import Derived.Test.YtcikkglcoeedlaaGreatCa34
import Derived.Test.YtcikkglcoeedlaaGreatCa38
set_option linter.unusedSimpArgs false
set_option linter.unusedVariables false
set_option maxRecDepth 100000
set_option maxHeartbeats 4000000
namespace Go.Proofs.YtcikkglcoeedlaaGreat
section
open Go.RowKit
theorem A4a{C kind n d r:Int}{P:List Tm}{o:List (Nat->Int)}{s:List Int}{b:List (Nat->RQ×RQ)}(h:ClOk kind n d r P o s b):0<=DT C kind n r (b.length:Nat):=by
 have A:=h.nb;have B:=h.rb;unfold DT
 repeat' split
 all_goals omega
theorem A26(x y:Nat->Int):JK x y=JK y x:=by
 rw[Bool.eq_iff_iff];rw[Gv,Gv];exact⟨λh i M=>(h i M).symm,λh i M=>(h i M).symm⟩
theorem Ph{o l:List (Nat->Int)}(h:GA o l):GA l o:=⟨h.1.symm,λj e=>by rw[A26];exact h.2 j (by have:=h.1;omega)⟩
theorem WB(o l:List (Nat->Int)):decide (GA o l)=decide (GA l o):=decide_eq_decide.2 ⟨Ph,Ph⟩
theorem Vp(x y:Rw)(V:Int)(E:x.Ok)(O:y.Ok)(v:x.V.length<=9223372036854775807)(xc:y.V.length<=9223372036854775807)(xh:-9223372036854775808<=V/\V<=9223372036854775807):Abs Tryz.prog 6 [AJ (rwX x++rwX y),ex (.int .i64 V)] (ex (.bool true)):=by
 have m0:=TN x.T x.T' x.kd x.L E.L x.V E.V v;have m1:=KS x.T x.T' x.kd E.kd x.L E.L x.V E.V v;have m2:=KS y.T y.T' y.kd O.kd y.L O.L y.V O.V xc;obtain⟨kind,P,n,d,r,o,Q,s,b,e,C⟩:=PH x.kd x.L x.V E.V;obtain⟨z,k,Y,S,J,B,w,j,G,a,c⟩:=PH y.kd y.L y.V O.V;rw[e]at m1;rw[a]at m2;have R:=C.pb.psz9;have T:=c.pb.psz9;have i:P.length<=1000000:=Nat.le_trans C.pb.len ZbN;have N:k.length<=1000000:=Nat.le_trans c.pb.len ZbN;have F:o.length<=1000000:=Nat.le_trans C.ob ZbN;have M:B.length<=1000000:=Nat.le_trans c.ob ZbN;have W:G.length<=1000000:=Nat.le_trans c.bb ZbN;obtain⟨K,m⟩:∃K,K=A1K x.L x.V:=⟨_,rfl⟩
 have p:K.f.length<=1000000:=by
  rw[m];show(rQ _).length<=1000000;rw[rQ,List.length_map];refine Nat.le_trans (OY _ _ _ (Nat.le_refl _)) ?_;rw[List.length_drop,List.length_take]
  have:(EP x.L).length<=6:=by
   show(Jt x.L _).length<=6;simp[Jt];omega
  omega
 rw[<-m]at m0;obtain⟨l,A⟩:∃l,l=rQ Q:=⟨_,rfl⟩;obtain⟨L,xa⟩:∃l,l=rQ w:=⟨_,rfl⟩;rw[<-A]at m1;rw[<-xa]at m2;have Z:=LE V ⟨kind,P.map EE,n,d,r,o,l,s,b⟩;have u:=LE V ⟨z,k.map EE,Y,S,J,B,L,j,G⟩
 dsimp only at Z u
 rw[<-GN]at Z u;have f:=NP K V P P o kind n d r o l s b R R i i F F p;have U:=Mb K V P P o kind n d r o l s b F F p;have H:=NP K V P k B kind n d r o l s b R T i N F M p;have a4:=Mb K V P k B kind n d r o l s b F M p;rw[Kh,Kh]at f H;rw[WA k P,WB B o]at a4;obtain⟨t,xe⟩:∃X,X=Dq V kind n (decide (K.f.length=0)) (Fn P P) (Fn P (FG 1)) (decide (GA o o)):=⟨_,rfl⟩;obtain⟨X2,xf⟩:∃X,X=Dq V kind n (decide (K.f.length=0)) (Fn P k) (Fn P (FG 1)) (decide (GA o B)):=⟨_,rfl⟩;rw[<-xe]at f U;rw[<-xf]at H a4;have q:=QN V (BQ P) o ⟨z,k.map EE,Y,S,J,B,L,j,G⟩ W;have g:=VD V (BQ P) o ⟨z,k.map EE,Y,S,J,B,L,j,G⟩ W;have xg:0<=DT V z Y J (G.length:Nat):=A4a c
 dsimp only at q g
 obtain⟨L1,xb⟩:∃L1,L1=DT V z Y J (G.length:Nat):=⟨_,rfl⟩;obtain⟨h,xd⟩:∃h,h=Em V z Y J (G.length:Nat):=⟨_,rfl⟩;rw[<-xb,<-xd]at q g;rw[<-xb]at xg;rw[Tn]at m1 m2 Z u f U H a4 q g;clear e a C c xe xf xb xd m;have ce:=Ti;refine Ab Tryz.func6 λI=>?_;rw[Tryz.ntmps6];refine Go ?_;refine ZgF ?_;refine Dy 8 ?_;refine Zfn ?_;refine Dy 37 ?_;cases t<;>cases X2
 .exact ZbB
 .exact ZbB
 .exact ZbB
 .exact ZbB
open Go.ChangeAt Go.ChangeShapes Go.Deep Go.Joins Go.WideShapes
theorem KJ(os:Os)(xg:os.Started)(H:Type)(enc:TypeId×Value->H) :
  ReturnsInHanded {} Tryz.checked os 6 .any (Rows.claimAnswersSpec.pre6 enc Tryz.prog Tryz.f6 Rows.claimAnswersRow.domain false) (Rows.claimAnswersSpec.post enc Tryz.prog Tryz.f6 false true false false):=by
 refine returnsInHanded_of_change (C := Tryz.checked) own xg ZbM Tryz.func6
  (ChangeSpec.witness6 (enc:=enc) (C:=Tryz.checked) false ⟨#[],#[.agg #[.int .u8 0,.slice none 0 0,.slice none 0 0,.int .u8 0,.slice none 0 0,.slice none 0 0],.int .i64 0],[]⟩ 8 ZbM ZbM ZbM ZbM) ?_
 intro W base args R gs xm xi N xn _;have Hv:∀(j:Nat) t v,Tryz.f6.params[j]? = some t->args[j]? = some v->Value.okWide Tryz.prog W .any base t v:=xi;have xe:=N;obtain⟨p,q,xh,f,rfl,w,r⟩:=N;have Z:DataW.TrodAll enc Tryz.prog W 0 (λ_=>true) true Tryz.f6.params.toList args.toList R p:=xh;rw[Tryz.params6]at Z Hv;obtain⟨z,xo,T,u,p0,q0,xd,rfl,rfl,g,U⟩:=trodAll_cons Z;obtain⟨o,Zm,s,xa,i,Y,rfl,rfl,rfl,A,S⟩:=trodAll_cons U;obtain⟨rfl,rfl,rfl⟩:=trodAll_nil S;obtain rfl:args=#[z,o]:=by cases args;simp_all
 obtain⟨rfl,rfl⟩:=trodVars_none f;have n:=g;have xk:∀x∈p0,x.block<W.heap.size:=by obtain⟨m,I⟩:=n;exact DataW.trod_lt m _ _ _ I
 have l:=A;have xl:∀x∈i,x.block<W.heap.size:=by obtain⟨m,I⟩:=l;exact DataW.trod_lt m _ _ _ I
 obtain⟨V,y0,P,xb,Q⟩:∃x y:Rw,x.Ok/\y.Ok/\(AJ (rwX x++rwX y)).rel (GS.all W) z:=by
  obtain⟨a,rfl,_⟩:=SS Tryz.underlying63 (Hv 0 63 z rfl rfl);obtain⟨xc,F⟩:=g;obtain⟨R,⟨x,y,E,O,rfl⟩,J⟩:=ZN _ _ _ _ _ _ _ _ _ F;exact⟨x,y,E,O,J.agg rfl λb k h=>h⟩
 obtain⟨d,rfl,M,_,xj⟩:=open_int Tryz.underlying3 (Hv 1 3 o rfl rfl) A;have c:(ex (.int .i64 d)).rel (GS.all W) (.int .i64 d):=rfl;clear xh xi;refine((Vp V y0 d P xb (Yw Q).1 (Yw Q).2 (bounds_i64 xj)).2 (GS.all W) [z,(.int .i64 d)] (A0J W) rfl (λk C=>?_)).mono λe W' ⟨v,X,B,L,K,G⟩=>?_
 .match k,C with
  |0,_=>exact Q
  |1,_=>exact c
 obtain rfl:v=.bool true:=G;subst X;have xf:Below W.heap.size W W':=L▸K.ext;exact⟨_,rfl,_,_,_,[],_,[],xe,trodAll_mk1 (shut_bool Tryz.underlying4 _),(trodAll_cons_mk (Below.trod YS ZbM (of_decide_eq_true ZbM) n xf xk) (trodAll_cons_mk (Below.trod YS ZbM (of_decide_eq_true ZbM) l xf xl) trodAll_mk0)),rfl,xf.frame _,λh=>by cases h⟩
theorem Qi:Tryz.prog.unfollowed 6=Rows.claimAnswersRow.unfollowed:=by kernel_rfl
theorem Qj:Tryz.prog.recurses 6=Rows.claimAnswersRow.recurses:=by kernel_rfl
theorem Qo:Tryz.prog.inPlace 6=Rows.claimAnswersRow.inPlace:=by kernel_rfl
theorem Qk:Tryz.prog.varsNamed 6=Rows.claimAnswersRow.named:=by kernel_rfl
theorem Qm:laidOutB Tryz.prog=true:=by kernel_rfl
theorem Ql:mapsRowed Tryz.prog=true:=by kernel_rfl
theorem Qn:joinedFacts Tryz.prog 6 Tryz.f6 Rows.claimAnswersSpec Rows.claimAnswersRow=true:=by
 unfold joinedFacts;rw[Qi,Qj,Qo,Qk,Qm,Ql]
 kernel_rfl
theorem LO:Rows.claimAnswersRow.holds Tryz.pinned (OpenSpec.ofChange Rows.claimAnswersSpec):=
 OpenClaim.holds_of_wide 6 Tryz.f6 rfl rfl rfl rfl rfl rfl rfl ⟨rfl, rfl, rfl, rfl, rfl⟩ rfl rfl rfl rfl rfl ZbM Tryz.func6 Qn
  (of_decide_eq_true ZbM) (by unfold Func.isWrapper;first | (rw[if_pos (by decide +kernel)];kernel_rfl) | (rw[if_neg (by decide +kernel)];exact⟨rfl,rfl⟩))
  (λos C H t _=>KJ os C H t)
theorem claimAnswers_holds:Rows.ClaimAnswersSaid:=LO
#print axioms claimAnswers_holds
end
end Go.Proofs.YtcikkglcoeedlaaGreat
