/- Part 26. No condition. -/
import Derived.Recover
import Derived.WalkKit
import Derived.Test.YtcikkglcoeedlaaGreatDm18
import Derived.Test.YtcikkglcoeedlaaGreatDm19
import Derived.Test.YtcikkglcoeedlaaGreatDm20
import Derived.Test.YtcikkglcoeedlaaGreatDm22
import Derived.Test.YtcikkglcoeedlaaGreatDm24
set_option linter.all false
set_option maxRecDepth 100000
set_option maxHeartbeats 2000000
namespace Go.Proofs.YtcikkglcoeedlaaGreat
open _root_.Go.Proofs.Tryz
variable{v:List D}{n b T m c k:Nat}{vh ub:Nat->Value}{P:Program}{z u:Value}
section
open Go.RowKit
theorem A17(p q:Value)(w:World):CallsD prog 41 #[p,q] .returning w λe E N=>(∃v,e=.returned v)/\E=.returning/\N=w:=by
 refine callsD_of_wpS func41 rfl λR f Q=>?_;apply wpS_seq;apply wpS_region;simp[wpOpsS,go_sem,recoverD,Q,ntmps41,Exit.thenS];refine wpS_cond (t:=false) (by simp[Act.eval,Array.replicate]) ?_;simp only[Bool.false_eq_true,if_false];refine wpS_of_wp (wp_skip ?_);refine⟨rfl,.returning,?_,?_⟩
 .cases R
  simp_all
 .exact ⟨.tuple #[],by simp[results,Tryz.results41],⟨_,rfl⟩,rfl,rfl⟩
def MT:Fct:=⟨⟨0,[],[]⟩,⟨0,[],0,0,0,[],[],[],[]⟩,⟨0,[],[],[],[],[],[],⟨λ_=>0,[],λ_=>[]⟩,[],[],[],[]⟩⟩
abbrev LO(f:Fct)(e:Int):List Ow:=[.var 48 ((DG f).map .d),.var 49 ([eI e].map .d)]
structure FinK(vs:List Value)(e:Exit)(σ:AS):Prop where
 how:e=.normal
 hp:AS.le σ ⟨[],LO MT 3++[.pin (FJ [] 0 vs)]⟩
theorem OwR.varD{s:GS}{i C:Nat}(h:OwR n b vh s i (.var C (v.map .d)))(M:ub i=vh i):OwR n T ub s i (.var C (v.map .d)):=by
 obtain⟨q,c,A,B,K,Q,F,G,g⟩:=h;refine⟨q,c,M.trans A,B,K,Q,F,G,λk I E=>?_⟩;obtain⟨u,J,S,X⟩:=g k I E;refine⟨u,J,S,?_⟩;rw[Yav]at E
 cases d:v[k]? with
 |none=>rw[d]at E;cases E
 |some x=>rw[d]at E;cases E;exact X
theorem A3W(s:GS)(V:Nat->Value)(g:Fct)(z:Int)(C:s.Ok)(Z:HpOk 0 V s (LO g z))(m:Sep s V (LO g z)) :
  CallsD prog 41 #[V 0,V 1] (.panicking rCh) s.w λe h N=>(∃v,e=.returned v)/\settle h=.returning/\∃A:GS,A.w=N/\GS.LeX (IU s V (LO g z)) s A/\A.Ok/\HpOk 0 V A (LO MT 3):=by
 refine callsD_of_wpS func41 rfl λw f Q=>?_;apply wpS_seq;apply wpS_region;simp[wpOpsS,go_sem,recoverD,Q,ntmps41,Exit.thenS];refine wpS_cond (t:=true) (by simp[Act.eval,Array.replicate]) ?_;simp only[if_true];refine wpS_of_wp (wp_mono (AWp.run (s0:=⟨s,IU s V (LO g z),[]⟩) (n:=5) (Q:=FinK [V 0,V 1]) (σ:=⟨[(0,.ptr 0 0),(1,.ptr 1 0)],LO g z++[.pin (FJ [] 0 [V 0,V 1])]⟩) ?hA _ _ ?hst) ?post)
 case hA=>
  apply AWp.region;(refine De rfl rfl ?_;(refine AI (Aa rfl) rfl rfl rfl ?_;(repeat ((first | refine⟨_,Ar (ao rfl),?_⟩ | refine⟨_,Po rfl,?_⟩);refine⟨_,rfl,?_⟩));refine⟨_,rfl,?_⟩));refine Sf ?_;refine Dg (ao rfl) (ao rfl) rfl (Aa rfl) ZbS rfl rfl ?_;apply AWl.nil;refine⟨rfl,?_⟩;exact Ac (by exact FrLe.nil) (by refine HpLe.cons (OwLe.cells ZcJ) ?_;refine HpLe.cons (OwLe.cells ZcJ) ?_;exact HpLe.cons (Ak rfl)<|HpLe.nil)
 case hst=>
  have c:=Z 0 _ rfl;have q:=Z 1 _ rfl;obtain⟨r,_,n,_⟩:=id c;obtain⟨O,_,W,_⟩:=id q;refine⟨s,V,rfl,GS.LeX.refl _ s,C,λt G L=>?_,by simp,rfl,λi o J=>?_,λi j o x S J X b E M=>?_,λi o b J E=>?_⟩
  .match t,L with
   |0,L=>cases L;exact⟨Ych _,r,n,n⟩
   |1,L=>cases L;exact⟨YdY (Ych _),O,W,W⟩
  .match i,J with
   |0,J=>cases J;exact c.varD rfl
   |1,J=>cases J;exact q.varD rfl
   |2,J=>
    exact Zbi
  .have key:∀(i:Nat) (o:Ow),(LO g z++[Ow.pin (FJ [] 0 [V 0,V 1])])[i]? = some o->(LO g z)[i]? = some o\/o=Ow.pin (FJ [] 0 [V 0,V 1]):=λi o J=>by
    match i,J with
    |0,J=>exact .inl J
    |1,J=>exact .inl J
    |2,J=>cases J;exact .inr rfl
   rcases key i o J with J | rfl
   .rcases key j x X with X | rfl
    .exact m i j o x S J X b E M
    .exact M
   .exact E
  .match i,J with
   |0,J=>cases J;exact .inl ⟨0,_,rfl,E⟩
   |1,J=>cases J;exact .inl ⟨1,_,rfl,E⟩
   |2,J=>cases J;exact E.elim
 case post=>
  rintro e Y N ⟨d,⟨rfl,I⟩,a⟩;obtain⟨A,R,rfl,u⟩:=I _ _ _ _ a;have F:=u.hp 2 _ rfl;have l:V 0=R 0:=(F (V 0,.own 0) (by simp[FJ])).2;have K:V 1=R 1:=(F (V 1,.own 1) (by simp[FJ])).2;refine⟨u.df,.panicking [{ v:=.iface 49 (.int .i64 3),recovered:=true }],rfl,.tuple #[],by simp[results,Tryz.results41],⟨_,rfl⟩,rfl,A,rfl,u.le,u.ok,λi o J=>?_⟩
  match i,J with
  |0,J=>cases J;exact(u.hp 0 _ rfl).varD l
  |1,J=>cases J;exact(u.hp 1 _ rfl).varD K
open Classical
theorem ResV.cell1{e:AS}{d:TypeDesc}{x:D}(h:Ce e.fr n=some (.ptr k 0))(E:e.hp[k]? = some (.var T (v.map .d)))(L:Tab P b d m c z)(q:ES d=false)(G:v[0]? = some x):ResV P e (.cell n b) x:=by
 refine⟨λbase V s M Z J=>?_⟩;obtain⟨-,g,K,W⟩:=J n _ h;obtain⟨N,f,Q,A,B,C,F,S,X⟩:=Z k _ E;rw[K]at Q;cases Q;obtain⟨u,I,p,o⟩:=X 0 (.d x) (by rw[Yav,G];rfl);have:s.w.cell? ⟨g,0,none⟩=some u:=(CU B).trans I;exact⟨u,by simp[Fp,W,asAddr,loadVar,L.run_agg,q,this],o⟩
noncomputable def KK (F:Fct->List Nat) (l:List Nat):Option Fct:=match Lf G0 l with
 |some (f,_)=>if F f=l then some f else none
 |none=>none
noncomputable def PA (F:Fct->List Nat) (l:List Nat):Fct:=(KK F l).getD MT
noncomputable def PD (F:Fct->List Nat) (l:List Nat):Int:=if(KK F l).isSome=true then 0 else 3
noncomputable abbrev SS (F:Fct->List Nat) (l:List Nat):D:=FA [AP (DG (PA F l)),eI (PD F l)]
theorem GS.LeX.le2{m:Nat->Prop}{s s2 s3:GS}(h:GS.LeX (λ_=>False) s s2)(k:GS.LeX m s2 s3)(v:∀b,m b->s.w.heap.size<=b):GS.Le s s3:=
 GS.LeX.le (mine:=λ_=>False) (λ_ h=>h) ⟨k.os.trans h.os,k.tape.trans h.tape,k.output.trans h.output,λx C _=>(k.block x (Yaq C h.size) λE=>absurd (v x E) ZbC).trans (h.block x C λh=>h),h.chg.trans k.chg,λb j E _ X=>h.old b j E (λh=>h) (k.old b j (Yaq E h.size) (λC=>absurd (v b C) ZbC) X),λb E=>(k.tag b (Yaq E h.size)).trans (h.tag b E),λq=>k.ok (h.ok q)⟩
theorem A5A{σ:AS}{f:Fct}{e:Int}{d h:TypeDesc}(q:Ce σ.fr 2=some (.ptr 0 0))(A:Ce σ.fr 3=some (.ptr 1 0))(K:σ.hp[0]? = some (.var c ((DG f).map .d)))(Q:σ.hp[1]? = some (.var k ([eI e].map .d)))(L:Tab P c d n b z)(B:ES d=true)(G:n=(DG f).length)(y:Tab P k h T m u)(C:ES h=false):Rets P σ #[.cell 2 c,.cell 3 k] (FA [AP (DG f),eI e]):=
 .of2 (.cell q K L B (Tc _) (by rw[Yap];exact G.symm)) (.cell1 A Q y C rfl) (D.le.refl _)
theorem Vv{d:List PanicEntry}{N:AS->Prop}{Q:Exit->AS->Prop}{σ:AS}(h:Q (.panic d) σ):AThen N Q (.panic d) σ:=⟨h⟩
structure FinD(enc:Fct->List Nat)(l:List Nat)(vs:List Value)(e:Exit)(σ:AS):Prop where
 h:(e=.ret/\Rets prog σ #[.cell 2 48,.cell 3 49] (SS enc l))\/(e=.panic rCh/\KK enc l=none/\∃g z,AS.le σ ⟨[(2,.ptr 0 0),(3,.ptr 1 0)],LO g z++[.pin (FJ [] 0 vs)]⟩)
theorem Nz(xf:Fct->List Nat)(R:∀f,B8 (xf f))(T:TypeId)(l:List Nat)(I:Byt l)(Q:l.length<=40000)(Z:∀f m,Lf G0 l=some (f,m)->Abs prog 14 [AP (DG f)] (Eq 5 (xf f))):Abs prog 11 [Eq T l] (SS xf l):=by
 have xi:=Ag func11 ZbG ZbG;refine⟨xi,λs d W xn r=>calls_of_wp_defers func11 rfl ?_⟩;rw[ntmps11];refine wp_seq (wp_mono (AWp.run (s0:=⟨s,λ_=>False,[]⟩) (n:=17) (Q:=λe O=>e=.normal/\AS.le O ⟨[(2,.ptr 0 0),(3,.ptr 1 0),(0,.d (Eq T l))],LO MT 0⟩) (σ:=⟨params 0 [Eq T l],[]⟩) ?hA1 _ _ ⟨s,λ_=>undef,rfl,GS.LeX.refl _ s,W,λt c L=>?hfr,by simp;have:=xn;simp at this;omega,rfl,(λi o J=>by cases J),(λi j o x _ J=>by cases J),(λi o b J=>by cases J)⟩) ?post)
 case hfr=>
  obtain⟨_,A,C⟩:=Lw L;rw[Nat.sub_zero]at A C;subst C;have Q:=r t A;have S:t<d.length:=by omega
  show(Dd [Eq T l] t).rel s ((d.toArray++Array.replicate (17-d.toArray.size) undef).getD t undef)
  have:(d.toArray++Array.replicate (17-d.toArray.size) undef).getD t undef=d.getD t undef:=by
   exact ZiB
  rw[this];exact Q
 case hA1=>
  refine Go ?_;refine⟨rfl,?_⟩;exact Ac ZcT Zcw
 case post=>
  rintro e a1 P ⟨xm,⟨rfl,xa⟩,a⟩;obtain⟨U,V,rfl,u⟩:=xa _ _ _ _ a
  have t2:a1.eval (.tmp 2)=V 0:=by
   obtain⟨-,b,q,A⟩:=u.fr 2 _ rfl;exact A.trans q.symm
  have t3:a1.eval (.tmp 3)=V 1:=by
   obtain⟨-,b,q,A⟩:=u.fr 3 _ rfl;exact A.trans q.symm
  show Code.wp _ _ _ a1 U.w;refine wp_seq ?_;refine wp_region_lit ?_;refine wpList_plain rfl λK hK=>?_;unfold Oper.wp;simp[execOp,Instr.makeFunc,t2,t3];show K (a1.put (some 5) (.func (.func 41) #[] #[V 0,V 1])) U.w;have xt:5<a1.tmps.size:=by rw[u.sz];decide
  have t5:(a1.put (some 5) (.func (.func 41) #[] #[V 0,V 1])).eval (.tmp 5)=.func (.func 41) #[] #[V 0,V 1]:=by
   show(a1.tmps.set! 5 _).getD 5 undef=_;simp[YaA,Array.set!,xt]
  have xp:∀t,t≠5->(a1.put (some 5) (.func (.func 41) #[] #[V 0,V 1])).tmps.getD t undef=a1.tmps.getD t undef:=λt L=>by
   show(a1.tmps.set! 5 _).getD t undef=_;simp[YaA,Array.set!,Array.getElem?_setIfInBounds,Ne.symm L]
  refine hK _ _ ?_;refine wpList_plain rfl λK' xr=>?_;unfold Oper.wp;simp[execOp,resolve,t5];show K' { (a1.put (some 5) (.func (.func 41) #[] #[V 0,V 1]))with defers:=⟨.fn (.func 41) #[V 0,V 1],#[]⟩::a1.defers } U.w;refine xr _ _ (wpList_nil ?_);show Code.wp _ _ (bodyPostD _ _ _) _ U.w;have xs:a1.defers=[]:=u.df;rw[xs];refine wp_mono (AWp.run (s0:=⟨s,λ_=>False,[⟨.fn (.func 41) #[V 0,V 1],#[]⟩]⟩) (n:=17) (Q:=FinD xf l [V 0,V 1]) (σ:=⟨[(2,.ptr 0 0),(3,.ptr 1 0),(0,.d (Eq T l))],LO MT 0++[.pin (FJ [] 0 [V 0,V 1])]⟩) ?hA2 _ _ ⟨U,V,rfl,u.le,u.ok,λt c L=>?hfr2,?hsz2,rfl,λi o J=>?hhp2,λi j o x xc J X b E xb=>?hsep2,λi o b J E=>?hown2⟩) ?post2
  case hsz2=>exact(Array.size_set! ..).trans u.sz
  case hfr2=>
   match t,L with
   |0,L=>cases L;exact(xp 0 ZbH).symm▸u.fr 0 _ rfl
   |2,L=>
    cases L;obtain⟨-,b,q,A⟩:=u.fr 2 _ rfl;exact⟨Ych _,b,q,(xp 2 ZbH).trans A⟩
   |3,L=>
    cases L;obtain⟨-,b,q,A⟩:=u.fr 3 _ rfl;exact⟨YdY (Ych _),b,q,(xp 3 ZbH).trans A⟩
  case hhp2=>
   match i,J with
   |0,J=>cases J;exact(u.hp 0 _ rfl).varD rfl
   |1,J=>cases J;exact(u.hp 1 _ rfl).varD rfl
   |2,J=>
    exact Zbi
  case hsep2=>
   have key:∀(i:Nat) (o:Ow),(LO MT 0++[Ow.pin (FJ [] 0 [V 0,V 1])])[i]? = some o->(LO MT 0)[i]? = some o\/o=Ow.pin (FJ [] 0 [V 0,V 1]):=λi o J=>by
    match i,J with
    |0,J=>exact .inl J
    |1,J=>exact .inl J
    |2,J=>cases J;exact .inr rfl
   rcases key i o J with J | rfl
   .rcases key j x X with X | rfl
    .exact u.sep i j o x xc J X b E xb
    .exact xb
   .exact E
  case hown2=>
   match i,J with
   |0,J=>exact u.own 0 o b J E
   |1,J=>exact u.own 1 o b J E
   |2,J=>cases J;exact E.elim
  case hA2=>
   have G:=AaA T l I;refine Go ?_;refine Bd [3] [] [] (G) (BX rfl) (λn=>(by(repeat refine Vv ?_);exact⟨.inr ⟨rfl,by unfold KK;rw[n],MT,0,Ac Zeb ZdI⟩⟩)) rfl rfl ZbB Zbz ZbH Zbx ZbD trivial rfl ?_;rintro _ _ ⟨f,H,q,xa,rfl,rfl⟩;refine Kr ?_;have w:=Z f H q;refine Go ?_;refine Dy 6 ?_;refine DA ?_;refine⟨_,HStep.q rfl (Fm (l:=xf f) rfl (Aa rfl) (Aa rfl) (Aa rfl)),?_⟩;refine DA ?_;refine Xq (Fm (l:=l) rfl (Aa rfl) (Aa rfl) (Aa rfl)) ?_;refine⟨_,HStep.q rfl (To (b:=xf f) (c:=l) rfl rfl (R f) I.lt),?_⟩;refine DA ?_;by_cases M:xf f=l
   .rw [Yal M]
    refine Go ?_;have xe:KK xf l=some f:=by unfold KK;rw[q];exact Yao M
    have xk:SS xf l=FA [AP (DG f),eI 0]:=by simp[SS,PA,PD,xe]
    refine⟨.inl ⟨rfl,?_⟩⟩;rw[xk];exact A5A rfl rfl rfl rfl (Aa rfl) rfl rfl (Aa rfl) rfl
   .rw [Yad M]
    have xe:KK xf l=none:=by unfold KK;rw[q];exact Yaj M
    refine Zhj ?_;refine Du (ao rfl) ?_
    (repeat refine Vv ?_);exact⟨.inr ⟨rfl,xe,f,0,Ac Zeb ZdI⟩⟩
  case post2=>
   rintro e a2 w2 ⟨xq,hF,xj⟩;rcases hF.h with⟨rfl,Y⟩ | ⟨rfl,hno,g,z,hle⟩
   .obtain ⟨s2,xg,rfl,xh⟩:=xj
    show Leaves _ _ a2.tmps _ a2.defers .returning s2.w;rw[show a2.defers=[⟨.fn (.func 41) #[V 0,V 1],#[]⟩]from xh.df];refine leaves_cons ZbR rfl ((A17 _ _ _).mono ?_);rintro e u' N ⟨⟨v,rfl⟩,rfl,rfl⟩;obtain⟨y,q,A⟩:=Y.run _ xg s2 a2.tmps Tryz.f11 rfl xh.hp xh.fr;exact⟨y,q,y,rfl,s2,rfl,xh.le.le λ_ h=>h,A⟩
   .obtain ⟨s2,xg,rfl,xh⟩:=hle _ _ _ _ xj
    have F:=xh.hp 2 _ rfl;have r0:V 0=xg 0:=(F (V 0,.own 0) (by simp[FJ])).2;have r1:V 1=xg 1:=(F (V 1,.own 1) (by simp[FJ])).2;show Leaves _ _ a2.tmps _ a2.defers (.panicking rCh) s2.w;rw[show a2.defers=[⟨.fn (.func 41) #[V 0,V 1],#[]⟩]from xh.df,r0,r1];refine leaves_cons ZbR rfl ((A3W s2 xg g z xh.ok (λi o J=>?hp3) (λi j o x xc J X=>?sep3)).mono ?_)
    case hp3=>
     match i,J with
     |0,J=>cases J;exact(xh.hp 0 _ rfl).varD rfl
     |1,J=>cases J;exact(xh.hp 1 _ rfl).varD rfl
    case sep3=>
     have key:∀(i:Nat) (o:Ow),(LO g z)[i]? = some o->(LO g z++[Ow.pin (FJ [] 0 [V 0,V 1])])[i]? = some o:=λi o J=>by
      match i,J with
      |0,J=>exact J
      |1,J=>exact J
     exact xh.sep i j o x xc (key _ _ J) (key _ _ X)
    rintro e u' N ⟨⟨v,rfl⟩,xl,s3,rfl,xd,xu,xo⟩;show Leaves _ _ a2.tmps _ [] (settle u') s3.w;rw[xl];have Y:Rets prog ⟨[(2,.ptr 0 0),(3,.ptr 1 0)],LO MT 3⟩ #[.cell 2 48,.cell 3 49] (FA [AP (DG MT),eI 3]):=A5A rfl rfl rfl rfl (Aa rfl) rfl rfl (Aa rfl) rfl
    have xk:SS xf l=FA [AP (DG MT),eI 3]:=by
     simp[SS,PA,PD,hno]
    obtain⟨y,q,A⟩:=Y.run 0 xg s3 a2.tmps Tryz.f11 rfl xo λt c L=>by
     match t,L with
     |2,L=>
      cases L;obtain⟨-,b,q,A⟩:=xh.fr 2 _ rfl;exact⟨Ych _,b,q,A⟩
     |3,L=>
      cases L;obtain⟨-,b,q,A⟩:=xh.fr 3 _ rfl;exact⟨YdY (Ych _),b,q,A⟩
    refine⟨y,q,y,rfl,s3,rfl,xh.le.le2 xd λb E=>?_,by rw[xk];exact A⟩;obtain⟨i,o,J,E⟩:=E
    match i,J with
    |0,J=>exact(xh.own 0 o b J E).elim False.elim id
    |1,J=>exact(xh.own 1 o b J E).elim False.elim id
end
