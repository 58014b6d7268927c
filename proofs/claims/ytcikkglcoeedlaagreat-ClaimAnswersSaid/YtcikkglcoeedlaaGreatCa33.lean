/- Part 33 of the proof of claimAnswers_holds. No condition. -/
import Derived.Recover
import Derived.WalkKit
import Derived.Test.YtcikkglcoeedlaaGreatCa20
import Derived.Test.YtcikkglcoeedlaaGreatCa22
import Derived.Test.YtcikkglcoeedlaaGreatCa24
import Derived.Test.YtcikkglcoeedlaaGreatCa26
import Derived.Test.YtcikkglcoeedlaaGreatCa27
import Derived.Test.YtcikkglcoeedlaaGreatCa30
set_option linter.unusedSimpArgs false
set_option linter.unusedVariables false
set_option maxRecDepth 100000
set_option maxHeartbeats 2000000
namespace Go.Proofs.YtcikkglcoeedlaaGreat
variable{c:List D}{n b T m a k:Nat}{vg vZ:Nat->Value}{P:Program}{z v:Value}
section
open Go.RowKit
theorem Xa(p q:Value)(w:World):CallsD Tryz.prog 41 #[p,q] .returning w λe n N=>(∃v,e=.returned v)/\n=.returning/\N=w:=by
 refine callsD_of_wpS Tryz.func41 rfl λA a L=>?_;apply wpS_seq;apply wpS_region;simp[wpOpsS,go_sem,recoverD,L,Tryz.ntmps41,Exit.thenS];refine wpS_cond (t:=false) (by simp[Act.eval,Array.replicate]) ?_;simp only[Bool.false_eq_true,if_false];refine wpS_of_wp (wp_skip ?_);refine⟨rfl,.returning,?_,?_⟩
 .cases A
  simp_all
 .exact ⟨.tuple #[],by simp[results,Tryz.results41],⟨_,rfl⟩,rfl,rfl⟩
def MU:Fct:=⟨⟨0,[],[]⟩,⟨0,[],0,0,0,[],[],[],[]⟩,⟨0,[],[],[],[],[],[],⟨λ_=>0,[],λ_=>[]⟩,[],[],[],[]⟩⟩
abbrev JN(f:Fct)(e:Int):List Ow:=[.var 48 ((Fa f).map .d),.var 49 ([ex (.int .i64 e)].map .d)]
structure FinK(vs:List Value)(e:Exit)(σ:AS):Prop where
 how:e=.normal
 hp:AS.le σ ⟨[],JN MU 3++[.pin (EH [] 0 vs)]⟩
theorem OwR.varD{s:GS}{i F:Nat}(h:OwR n b vg s i (.var F (c.map .d)))(K:vZ i=vg i):OwR n T vZ s i (.var F (c.map .d)):=by
 obtain⟨A,E,B,C,L,V,m,z,d⟩:=h;refine⟨A,E,K.trans B,C,L,V,m,z,λk U G=>?_⟩;obtain⟨u,I,J,Q⟩:=d k U G;refine⟨u,I,J,?_⟩;rw[List.getElem?_map]at G
 cases Z:c[k]? with
 |none=>rw[Z]at G;cases G
 |some x=>rw[Z]at G;cases G;exact Q
theorem A0e(s:GS)(W:Nat->Value)(g:Fct)(z:Int)(H:s.Ok)(Z:HpOk 0 W s (JN g z))(h:Sep s W (JN g z)) :
  CallsD Tryz.prog 41 #[W 0,W 1] (.panicking rCh) s.w λe n N=>(∃v,e=.returned v)/\settle n=.returning/\∃I:GS,I.w=N/\GS.LeX (Hr s W (JN g z)) s I/\I.Ok/\HpOk 0 W I (JN MU 3):=by
 refine callsD_of_wpS Tryz.func41 rfl λq a L=>?_;apply wpS_seq;apply wpS_region;simp[wpOpsS,go_sem,recoverD,L,Tryz.ntmps41,Exit.thenS];refine wpS_cond (t:=true) (by simp[Act.eval,Array.replicate]) ?_;simp only[if_true];refine wpS_of_wp (wp_mono (AWp.run (s0:=⟨s,Hr s W (JN g z),[]⟩) (n:=5) (Q:=FinK [W 0,W 1]) (σ:=⟨[(0,.ptr 0 0),(1,.ptr 1 0)],JN g z++[.pin (EH [] 0 [W 0,W 1])]⟩) ?hA _ _ ?hst) ?post)
 case hA=>
  apply AWp.region;(refine CU rfl rfl ?_;(refine AT (Aa rfl) rfl rfl rfl ?_;(repeat ((first | refine⟨_,AA (ao rfl),?_⟩ | refine⟨_,Po rfl,?_⟩);refine⟨_,rfl,?_⟩));refine⟨_,rfl,?_⟩));refine Sf ?_;refine Kd (ao rfl) (ao rfl) rfl (Aa rfl) Zcx rfl rfl ?_;apply AWl.nil;refine⟨rfl,?_⟩;exact Ad (by exact FrLe.nil) (by refine HpLe.cons (OwLe.cells Zce) ?_;refine HpLe.cons (OwLe.cells Zce) ?_;exact HpLe.cons (Aj rfl)<|HpLe.nil)
 case hst=>
  have E:=Z 0 _ rfl;have A:=Z 1 _ rfl;obtain⟨d,_,O,_⟩:=id E;obtain⟨Y,_,c,_⟩:=id A;refine⟨s,W,rfl,GS.LeX.refl _ s,H,λt U J=>?_,by simp,rfl,λi o M=>?_,λi j o l V M B b F S=>?_,λi o b M F=>?_⟩
  .match t,J with
   |0,J=>cases J;exact⟨Nat.zero_lt_succ _,d,O,O⟩
   |1,J=>cases J;exact⟨Nat.succ_lt_succ (Nat.zero_lt_succ _),Y,c,c⟩
  .match i,M with
   |0,M=>cases M;exact E.varD rfl
   |1,M=>cases M;exact A.varD rfl
   |2,M=>
    exact ZbA
  .have key:∀(i:Nat) (o:Ow),(JN g z++[Ow.pin (EH [] 0 [W 0,W 1])])[i]? = some o->(JN g z)[i]? = some o\/o=Ow.pin (EH [] 0 [W 0,W 1]):=λi o M=>by
    match i,M with
    |0,M=>exact .inl M
    |1,M=>exact .inl M
    |2,M=>cases M;exact .inr rfl
   rcases key i o M with M | rfl
   .rcases key j l B with B | rfl
    .exact h i j o l V M B b F S
    .exact S
   .exact F
  .match i,M with
   |0,M=>cases M;exact .inl ⟨0,_,rfl,F⟩
   |1,M=>cases M;exact .inl ⟨1,_,rfl,F⟩
   |2,M=>cases M;exact F.elim
 case post=>
  rintro e Q N ⟨X,⟨rfl,K⟩,f⟩;obtain⟨I,y,rfl,x⟩:=K _ _ _ _ f;have G:=x.hp 2 _ rfl;have m:W 0=y 0:=(G (W 0,.own 0) (by simp[EH])).2;have R:W 1=y 1:=(G (W 1,.own 1) (by simp[EH])).2;refine⟨x.df,.panicking [{ v:=.iface 49 (.int .i64 3),recovered:=true }],rfl,.tuple #[],by simp[results,Tryz.results41],⟨_,rfl⟩,rfl,I,rfl,x.le,x.ok,λi o M=>?_⟩
  match i,M with
  |0,M=>cases M;exact(x.hp 0 _ rfl).varD m
  |1,M=>cases M;exact(x.hp 1 _ rfl).varD R
open Classical
theorem ResV.cell1{C:AS}{d:TypeDesc}{x:D}(h:BV C.fr n=some (.ptr k 0))(l:C.hp[k]? = some (.var T (c.map .d)))(J:Tab P b d m a z)(Z:Ej d=false)(I:c[0]? = some x):ResV P C (.cell n b) x:=by
 refine⟨λbase W s S N R=>?_⟩;obtain⟨-,g,L,B⟩:=R n _ h;obtain⟨Y,A,V,E,F,G,K,M,Q⟩:=N k _ l;rw[L]at V;cases V;obtain⟨u,O,t,X⟩:=Q 0 (.d x) (by rw[List.getElem?_map,I];rfl);have:s.w.cell? ⟨g,0,none⟩=some u:=(CL F).trans O;exact⟨u,by simp[Es,B,asAddr,loadVar,J.run_agg,Z,this],X⟩
noncomputable def Oc (t:Fct->List Nat) (l:List Nat):Option Fct:=match PU G0 l with
 |some (f,_)=>if t f=l then some f else none
 |none=>none
noncomputable def A28 (t:Fct->List Nat) (l:List Nat):Fct:=(Oc t l).getD MU
noncomputable def A29 (t:Fct->List Nat) (l:List Nat):Int:=if(Oc t l).isSome=true then 0 else 3
noncomputable abbrev Re (t:Fct->List Nat) (l:List Nat):D:=EY [AJ (Fa (A28 t l)),ex (.int .i64 (A29 t l))]
theorem GS.LeX.le2{m:Nat->Prop}{s s2 s3:GS}(h:GS.LeX (λ_=>False) s s2)(k:GS.LeX m s2 s3)(t:∀b,m b->s.w.heap.size<=b):GS.Le s s3:=
 GS.LeX.le (mine:=λ_=>False) (λ_ h=>h) ⟨k.os.trans h.os,k.tape.trans h.tape,k.output.trans h.output,λx E _=>(k.block x (Nat.lt_of_lt_of_le E h.size) λF=>absurd (t x F) ZbK).trans (h.block x E λh=>h),h.chg.trans k.chg,λb j F _ e=>h.old b j F (λh=>h) (k.old b j (Nat.lt_of_lt_of_le F h.size) (λE=>absurd (t b E) ZbK) e),λb F=>(k.tag b (Nat.lt_of_lt_of_le F h.size)).trans (h.tag b F),λa=>k.ok (h.ok a)⟩
theorem A1o{σ:AS}{f:Fct}{e:Int}{d S:TypeDesc}(A:BV σ.fr 2=some (.ptr 0 0))(B:BV σ.fr 3=some (.ptr 1 0))(L:σ.hp[0]? = some (.var a ((Fa f).map .d)))(V:σ.hp[1]? = some (.var k ([ex (.int .i64 e)].map .d)))(J:Tab P a d n b z)(Z:Ej d=true)(I:n=(Fa f).length)(O:Tab P k S T m v)(M:Ej S=false):Rets P σ #[.cell 2 a,.cell 3 k] (EY [AJ (Fa f),ex (.int .i64 e)]):=
 .of2 (.cell A L J Z (Qq _) (by rw[List.length_map];exact I.symm)) (.cell1 B V O M rfl) (D.le.refl _)
theorem Sr{q:List PanicEntry}{N:AS->Prop}{Q:Exit->AS->Prop}{σ:AS}(h:Q (.panic q) σ):AThen N Q (.panic q) σ:=⟨h⟩
structure FinD(enc:Fct->List Nat)(l:List Nat)(vs:List Value)(e:Exit)(σ:AS):Prop where
 h:(e=.ret/\Rets Tryz.prog σ #[.cell 2 48,.cell 3 49] (Re enc l))\/(e=.panic rCh/\Oc enc l=none/\∃g z,AS.le σ ⟨[(2,.ptr 0 0),(3,.ptr 1 0)],JN g z++[.pin (EH [] 0 vs)]⟩)
theorem QK(xf:Fct->List Nat)(P:∀f,B8 (xf f))(T:TypeId)(l:List Nat)(E:Byt l)(V:l.length<=40000)(S:∀f m,PU G0 l=some (f,m)->Abs Tryz.prog 14 [AJ (Fa f)] (FR 5 (xf f))):Abs Tryz.prog 11 [FR T l] (Re xf l):=by
 have xi:=Ag Tryz.func11 ZbM ZbM;refine⟨xi,λs a H xn q=>calls_of_wp_defers Tryz.func11 rfl ?_⟩;rw[Tryz.ntmps11];refine wp_seq (wp_mono (AWp.run (s0:=⟨s,λ_=>False,[]⟩) (n:=17) (Q:=λe d=>e=.normal/\AS.le d ⟨[(2,.ptr 0 0),(3,.ptr 1 0),(0,.d (FR T l))],JN MU 0⟩) (σ:=⟨params 0 [FR T l],[]⟩) ?hA1 _ _ ⟨s,λ_=>undef,rfl,GS.LeX.refl _ s,H,λt U J=>?hfr,by simp;have:=xn;simp at this;omega,rfl,(λi o M=>by cases M),(λi j o R _ M=>by cases M),(λi o b M=>by cases M)⟩) ?post)
 case hfr=>
  obtain⟨_,B,L⟩:=Jy J;rw[Nat.sub_zero]at B L;subst L;have V:=q t B;have Y:t<a.length:=by omega
  show(Dd [FR T l] t).rel s ((a.toArray++Array.replicate (17-a.toArray.size) undef).getD t undef)
  have:(a.toArray++Array.replicate (17-a.toArray.size) undef).getD t undef=a.getD t undef:=by
   exact ZfC
  rw[this];exact V
 case hA1=>
  refine Go ?_;refine⟨rfl,?_⟩;exact Ad ZcW ZdB
 case post=>
  rintro e a1 r ⟨xm,⟨rfl,xa⟩,Q⟩;obtain⟨y,W,rfl,x⟩:=xa _ _ _ _ Q
  have t2:a1.eval (.tmp 2)=W 0:=by
   obtain⟨-,b,A,B⟩:=x.fr 2 _ rfl;exact B.trans A.symm
  have t3:a1.eval (.tmp 3)=W 1:=by
   obtain⟨-,b,A,B⟩:=x.fr 3 _ rfl;exact B.trans A.symm
  show Code.wp _ _ _ a1 y.w;refine wp_seq ?_;refine wp_region_lit ?_;refine wpList_plain rfl λK hK=>?_;unfold Oper.wp;simp[execOp,Instr.makeFunc,t2,t3];show K (a1.put (some 5) (.func (.func 41) #[] #[W 0,W 1])) y.w;have xt:5<a1.tmps.size:=by rw[x.sz];decide
  have t5:(a1.put (some 5) (.func (.func 41) #[] #[W 0,W 1])).eval (.tmp 5)=.func (.func 41) #[] #[W 0,W 1]:=by
   show(a1.tmps.set! 5 _).getD 5 undef=_;simp[Array.getD_eq_getD_getElem?,Array.set!,xt]
  have xp:∀t,t≠5->(a1.put (some 5) (.func (.func 41) #[] #[W 0,W 1])).tmps.getD t undef=a1.tmps.getD t undef:=λt J=>by
   show(a1.tmps.set! 5 _).getD t undef=_;simp[Array.getD_eq_getD_getElem?,Array.set!,Array.getElem?_setIfInBounds,Ne.symm J]
  refine hK _ _ ?_;refine wpList_plain rfl λK' xr=>?_;unfold Oper.wp;simp[execOp,resolve,t5];show K' { (a1.put (some 5) (.func (.func 41) #[] #[W 0,W 1]))with defers:=⟨.fn (.func 41) #[W 0,W 1],#[]⟩::a1.defers } y.w;refine xr _ _ (wpList_nil ?_);show Code.wp _ _ (bodyPostD _ _ _) _ y.w;have xs:a1.defers=[]:=x.df;rw[xs];refine wp_mono (AWp.run (s0:=⟨s,λ_=>False,[⟨.fn (.func 41) #[W 0,W 1],#[]⟩]⟩) (n:=17) (Q:=FinD xf l [W 0,W 1]) (σ:=⟨[(2,.ptr 0 0),(3,.ptr 1 0),(0,.d (FR T l))],JN MU 0++[.pin (EH [] 0 [W 0,W 1])]⟩) ?hA2 _ _ ⟨y,W,rfl,x.le,x.ok,λt U J=>?hfr2,?hsz2,rfl,λi o M=>?hhp2,λi j o R xc M O b F xb=>?hsep2,λi o b M F=>?hown2⟩) ?post2
  case hsz2=>exact(Array.size_set! ..).trans x.sz
  case hfr2=>
   match t,J with
   |0,J=>cases J;exact(xp 0 ZbN).symm▸x.fr 0 _ rfl
   |2,J=>
    cases J;obtain⟨-,b,A,B⟩:=x.fr 2 _ rfl;exact⟨Nat.zero_lt_succ _,b,A,(xp 2 ZbN).trans B⟩
   |3,J=>
    cases J;obtain⟨-,b,A,B⟩:=x.fr 3 _ rfl;exact⟨Nat.succ_lt_succ (Nat.zero_lt_succ _),b,A,(xp 3 ZbN).trans B⟩
  case hhp2=>
   match i,M with
   |0,M=>cases M;exact(x.hp 0 _ rfl).varD rfl
   |1,M=>cases M;exact(x.hp 1 _ rfl).varD rfl
   |2,M=>
    exact ZbA
  case hsep2=>
   have key:∀(i:Nat) (o:Ow),(JN MU 0++[Ow.pin (EH [] 0 [W 0,W 1])])[i]? = some o->(JN MU 0)[i]? = some o\/o=Ow.pin (EH [] 0 [W 0,W 1]):=λi o M=>by
    match i,M with
    |0,M=>exact .inl M
    |1,M=>exact .inl M
    |2,M=>cases M;exact .inr rfl
   rcases key i o M with M | rfl
   .rcases key j R O with O | rfl
    .exact x.sep i j o R xc M O b F xb
    .exact xb
   .exact F
  case hown2=>
   match i,M with
   |0,M=>exact x.own 0 o b M F
   |1,M=>exact x.own 1 o b M F
   |2,M=>cases M;exact F.elim
  case hA2=>
   have I:=A5t T l E;refine Go ?_;refine AH [3] [] [] (I) (BK rfl) (λn=>(by(repeat refine Sr ?_);exact⟨.inr ⟨rfl,by unfold Oc;rw[n],MU,0,Ad ZdN Zdz⟩⟩)) rfl rfl ZbH ZbG ZbN ZbE ZbJ trivial rfl ?_;rintro _ _ ⟨f,w,A,xa,rfl,rfl⟩;refine Kr ?_;have u:=S f w A;refine Go ?_;refine Dy 6 ?_;refine Cw ?_;refine⟨_,HStep.q rfl (GB (l:=xf f) rfl (Aa rfl) (Aa rfl) (Aa rfl)),?_⟩;refine Cw ?_;refine Xq (GB (l:=l) rfl (Aa rfl) (Aa rfl) (Aa rfl)) ?_;refine⟨_,HStep.q rfl (VI (b:=xf f) (c:=l) rfl rfl (P f) E.lt),?_⟩;refine Cw ?_;by_cases X:xf f=l
   .rw [decide_eq_true X]
    refine Go ?_;have xe:Oc xf l=some f:=by unfold Oc;rw[A];exact if_pos X
    have xk:Re xf l=EY [AJ (Fa f),ex (.int .i64 0)]:=by simp[Re,A28,A29,xe]
    refine⟨.inl ⟨rfl,?_⟩⟩;rw[xk];exact A1o rfl rfl rfl rfl (Aa rfl) rfl rfl (Aa rfl) rfl
   .rw [decide_eq_false X]
    have xe:Oc xf l=none:=by unfold Oc;rw[A];exact if_neg X
    refine Zgl ?_;refine CR (ao rfl) ?_
    (repeat refine Sr ?_);exact⟨.inr ⟨rfl,xe,f,0,Ad ZdN Zdz⟩⟩
  case post2=>
   rintro e a2 w2 ⟨xq,hF,xj⟩;rcases hF.h with⟨rfl,Z⟩ | ⟨rfl,hno,g,z,hle⟩
   .obtain ⟨s2,xh,rfl,xg⟩:=xj
    show Leaves _ _ a2.tmps _ a2.defers .returning s2.w;rw[show a2.defers=[⟨.fn (.func 41) #[W 0,W 1],#[]⟩]from xg.df];refine leaves_cons ZbV rfl ((Xa _ _ _).mono ?_);rintro e u' N ⟨⟨v,rfl⟩,rfl,rfl⟩;obtain⟨c,A,B⟩:=Z.run _ xh s2 a2.tmps Tryz.f11 rfl xg.hp xg.fr;exact⟨c,A,c,rfl,s2,rfl,xg.le.le λ_ h=>h,B⟩
   .obtain ⟨s2,xh,rfl,xg⟩:=hle _ _ _ _ xj
    have G:=xg.hp 2 _ rfl;have r0:W 0=xh 0:=(G (W 0,.own 0) (by simp[EH])).2;have r1:W 1=xh 1:=(G (W 1,.own 1) (by simp[EH])).2;show Leaves _ _ a2.tmps _ a2.defers (.panicking rCh) s2.w;rw[show a2.defers=[⟨.fn (.func 41) #[W 0,W 1],#[]⟩]from xg.df,r0,r1];refine leaves_cons ZbV rfl ((A0e s2 xh g z xg.ok (λi o M=>?hp3) (λi j o R xc M O=>?sep3)).mono ?_)
    case hp3=>
     match i,M with
     |0,M=>cases M;exact(xg.hp 0 _ rfl).varD rfl
     |1,M=>cases M;exact(xg.hp 1 _ rfl).varD rfl
    case sep3=>
     have key:∀(i:Nat) (o:Ow),(JN g z)[i]? = some o->(JN g z++[Ow.pin (EH [] 0 [W 0,W 1])])[i]? = some o:=λi o M=>by
      match i,M with
      |0,M=>exact M
      |1,M=>exact M
     exact xg.sep i j o R xc (key _ _ M) (key _ _ O)
    rintro e u' N ⟨⟨v,rfl⟩,xl,s3,rfl,xd,xu,xo⟩;show Leaves _ _ a2.tmps _ [] (settle u') s3.w;rw[xl];have Z:Rets Tryz.prog ⟨[(2,.ptr 0 0),(3,.ptr 1 0)],JN MU 3⟩ #[.cell 2 48,.cell 3 49] (EY [AJ (Fa MU),ex (.int .i64 3)]):=A1o rfl rfl rfl rfl (Aa rfl) rfl rfl (Aa rfl) rfl
    have xk:Re xf l=EY [AJ (Fa MU),ex (.int .i64 3)]:=by
     simp[Re,A28,A29,hno]
    obtain⟨c,A,B⟩:=Z.run 0 xh s3 a2.tmps Tryz.f11 rfl xo λt U J=>by
     match t,J with
     |2,J=>
      cases J;obtain⟨-,b,A,B⟩:=xg.fr 2 _ rfl;exact⟨Nat.zero_lt_succ _,b,A,B⟩
     |3,J=>
      cases J;obtain⟨-,b,A,B⟩:=xg.fr 3 _ rfl;exact⟨Nat.succ_lt_succ (Nat.zero_lt_succ _),b,A,B⟩
    refine⟨c,A,c,rfl,s3,rfl,xg.le.le2 xd λb F=>?_,by rw[xk];exact B⟩;obtain⟨i,o,M,F⟩:=F
    match i,M with
    |0,M=>exact(xg.own 0 o b M F).elim False.elim id
    |1,M=>exact(xg.own 1 o b M F).elim False.elim id
end
end Go.Proofs.YtcikkglcoeedlaaGreat
