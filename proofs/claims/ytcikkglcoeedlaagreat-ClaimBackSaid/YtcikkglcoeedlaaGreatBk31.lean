/- Part 31. No condition. -/
import Derived.Recover
import Derived.WalkKit
import Derived.Test.YtcikkglcoeedlaaGreatBk18
import Derived.Test.YtcikkglcoeedlaaGreatBk19
import Derived.Test.YtcikkglcoeedlaaGreatBk21
import Derived.Test.YtcikkglcoeedlaaGreatBk23
import Derived.Test.YtcikkglcoeedlaaGreatBk25
set_option linter.unusedSimpArgs false
set_option linter.unusedVariables false
set_option maxRecDepth 100000
set_option maxHeartbeats 2000000
namespace Go.Proofs.YtcikkglcoeedlaaGreat
open _root_.Go.Proofs.Tryz
variable{v:List D}{n b T m c k:Nat}{vi ud:Nat->Value}{P:Program}{z u:Value}
section
open Go.RowKit
theorem A0v(p q:Value)(w:World):CallsD prog 41 #[p,q] .returning w λe x N=>(∃v,e=.returned v)/\x=.returning/\N=w:=by
 refine callsD_of_wpS func41 rfl λF h S=>?_;apply wpS_seq;apply wpS_region;simp[wpOpsS,go_sem,recoverD,S,ntmps41,Exit.thenS];refine wpS_cond (t:=false) (by simp[Act.eval,Array.replicate]) ?_;simp only[Bool.false_eq_true,if_false];refine wpS_of_wp (wp_skip ?_);refine⟨rfl,.returning,?_,?_⟩
 .cases F
  simp_all
 .exact ⟨.tuple #[],by simp[results,Tryz.results41],⟨_,rfl⟩,rfl,rfl⟩
def OW:Fct:=⟨⟨0,[],[]⟩,⟨0,[],0,0,0,[],[],[],[]⟩,⟨0,[],[],[],[],[],[],⟨λ_=>0,[],λ_=>[]⟩,[],[],[],[]⟩⟩
abbrev Lh(f:Fct)(e:Int):List Ow:=[.var 48 ((El f).map .d),.var 49 ([ex (.int .i64 e)].map .d)]
structure FinK(vs:List Value)(e:Exit)(σ:AS):Prop where
 how:e=.normal
 hp:AS.le σ ⟨[],Lh OW 3++[.pin (FD [] 0 vs)]⟩
theorem OwR.varD{s:GS}{i E:Nat}(h:OwR n b vi s i (.var E (v.map .d)))(K:ud i=vi i):OwR n T ud s i (.var E (v.map .d)):=by
 obtain⟨A,c,B,C,L,S,G,I,g⟩:=h;refine⟨A,c,K.trans B,C,L,S,G,I,λk J F=>?_⟩;obtain⟨u,y,Q,W⟩:=g k J F;refine⟨u,y,Q,?_⟩;rw[Yax]at F
 cases e:v[k]? with
 |none=>rw[e]at F;cases F
 |some x=>rw[e]at F;cases F;exact W
theorem A3g(s:GS)(W:Nat->Value)(g:Fct)(z:Int)(E:s.Ok)(d:HpOk 0 W s (Lh g z))(V:Sep s W (Lh g z)) :
  CallsD prog 41 #[W 0,W 1] (.panicking rCh) s.w λe x N=>(∃v,e=.returned v)/\settle x=.returning/\∃B:GS,B.w=N/\GS.LeX (IF s W (Lh g z)) s B/\B.Ok/\HpOk 0 W B (Lh OW 3):=by
 refine callsD_of_wpS func41 rfl λr h S=>?_;apply wpS_seq;apply wpS_region;simp[wpOpsS,go_sem,recoverD,S,ntmps41,Exit.thenS];refine wpS_cond (t:=true) (by simp[Act.eval,Array.replicate]) ?_;simp only[if_true];refine wpS_of_wp (wp_mono (AWp.run (s0:=⟨s,IF s W (Lh g z),[]⟩) (n:=5) (Q:=FinK [W 0,W 1]) (σ:=⟨[(0,.ptr 0 0),(1,.ptr 1 0)],Lh g z++[.pin (FD [] 0 [W 0,W 1])]⟩) ?hA _ _ ?hst) ?post)
 case hA=>
  apply AWp.region;(refine De rfl rfl ?_;(refine AI (Aa rfl) rfl rfl rfl ?_;(repeat ((first | refine⟨_,Aw (ao rfl),?_⟩ | refine⟨_,Po rfl,?_⟩);refine⟨_,rfl,?_⟩));refine⟨_,rfl,?_⟩));refine Sf ?_;refine Dd (ao rfl) (ao rfl) rfl (Aa rfl) ZbU rfl rfl ?_;apply AWl.nil;refine⟨rfl,?_⟩;exact Ac (by exact FrLe.nil) (by refine HpLe.cons (OwLe.cells ZcK) ?_;refine HpLe.cons (OwLe.cells ZcK) ?_;exact HpLe.cons (Ak rfl)<|HpLe.nil)
 case hst=>
  have c:=d 0 _ rfl;have A:=d 1 _ rfl;obtain⟨f,_,m,_⟩:=id c;obtain⟨Q,_,Z,_⟩:=id A;refine⟨s,W,rfl,GS.LeX.refl _ s,E,λt I M=>?_,by simp,rfl,λi o K=>?_,λi j o w q K a b F O=>?_,λi o b K F=>?_⟩
  .match t,M with
   |0,M=>cases M;exact⟨YbR _,f,m,m⟩
   |1,M=>cases M;exact⟨YdR (YbR _),Q,Z,Z⟩
  .match i,K with
   |0,K=>cases K;exact c.varD rfl
   |1,K=>cases K;exact A.varD rfl
   |2,K=>
    cases K;intro p G;obtain⟨k,C,rfl⟩:=KP G
    match k,C with
    |0,_=>exact⟨YbR _,rfl⟩
    |1,_=>exact Zks
  .have key:∀(i:Nat) (o:Ow),(Lh g z++[Ow.pin (FD [] 0 [W 0,W 1])])[i]? = some o->(Lh g z)[i]? = some o\/o=Ow.pin (FD [] 0 [W 0,W 1]):=λi o K=>by
    match i,K with
    |0,K=>exact .inl K
    |1,K=>exact .inl K
    |2,K=>cases K;exact .inr rfl
   rcases key i o K with K | rfl
   .rcases key j w a with a | rfl
    .exact V i j o w q K a b F O
    .exact O
   .exact F
  .match i,K with
   |0,K=>cases K;exact .inl ⟨0,_,rfl,F⟩
   |1,K=>cases K;exact .inl ⟨1,_,rfl,F⟩
   |2,K=>cases K;exact F.elim
 case post=>
  rintro e X N ⟨R,⟨rfl,J⟩,Y⟩;obtain⟨B,L,rfl,T⟩:=J _ _ _ _ Y;have G:=T.hp 2 _ rfl;have n:W 0=L 0:=(G (W 0,.own 0) (by simp[FD])).2;have l:W 1=L 1:=(G (W 1,.own 1) (by simp[FD])).2;refine⟨T.df,.panicking [{ v:=.iface 49 (.int .i64 3),recovered:=true }],rfl,.tuple #[],by simp[results,Tryz.results41],⟨_,rfl⟩,rfl,B,rfl,T.le,T.ok,λi o K=>?_⟩
  match i,K with
  |0,K=>cases K;exact(T.hp 0 _ rfl).varD n
  |1,K=>cases K;exact(T.hp 1 _ rfl).varD l
open Classical
theorem ResV.cell1{A:AS}{d:TypeDesc}{x:D}(h:Ch A.fr n=some (.ptr k 0))(G:A.hp[k]? = some (.var T (v.map .d)))(M:Tab P b d m c z)(e:Fa d=false)(I:v[0]? = some x):ResV P A (.cell n b) x:=by
 refine⟨λbase W s O K R=>?_⟩;obtain⟨-,g,L,Z⟩:=R n _ h;obtain⟨V,B,S,C,E,F,y,Q,J⟩:=K k _ G;rw[L]at S;cases S;obtain⟨u,N,o,q⟩:=J 0 (.d x) (by rw[Yax,I];rfl);have:s.w.cell? ⟨g,0,none⟩=some u:=(Dh E).trans N;exact⟨u,by simp[Fk,Z,asAddr,loadVar,M.run_agg,e,this],q⟩
noncomputable def NC (K:Fct->List Nat) (l:List Nat):Option Fct:=match OU G0 l with
 |some (f,_)=>if K f=l then some f else none
 |none=>none
noncomputable def A3d (K:Fct->List Nat) (l:List Nat):Fct:=(NC K l).getD OW
noncomputable def A3e (K:Fct->List Nat) (l:List Nat):Int:=if(NC K l).isSome=true then 0 else 3
noncomputable abbrev OX (K:Fct->List Nat) (l:List Nat):D:=FY [AP (El (A3d K l)),ex (.int .i64 (A3e K l))]
theorem GS.LeX.le2{m:Nat->Prop}{s s2 s3:GS}(h:GS.LeX (λ_=>False) s s2)(k:GS.LeX m s2 s3)(A:∀b,m b->s.w.heap.size<=b):GS.Le s s3:=
 GS.LeX.le (mine:=λ_=>False) (λ_ h=>h) ⟨k.os.trans h.os,k.tape.trans h.tape,k.output.trans h.output,λx E _=>(k.block x (Yaq E h.size) λF=>absurd (A x F) ZbD).trans (h.block x E λh=>h),h.chg.trans k.chg,λb j F _ a=>h.old b j F (λh=>h) (k.old b j (Yaq F h.size) (λE=>absurd (A b E) ZbD) a),λb F=>(k.tag b (Yaq F h.size)).trans (h.tag b F),λB=>k.ok (h.ok B)⟩
theorem A4R{σ:AS}{f:Fct}{e:Int}{d F:TypeDesc}(A:Ch σ.fr 2=some (.ptr 0 0))(B:Ch σ.fr 3=some (.ptr 1 0))(L:σ.hp[0]? = some (.var c ((El f).map .d)))(S:σ.hp[1]? = some (.var k ([ex (.int .i64 e)].map .d)))(M:Tab P c d n b z)(C:Fa d=true)(I:n=(El f).length)(v:Tab P k F T m u)(E:Fa F=false):Rets P σ #[.cell 2 c,.cell 3 k] (FY [AP (El f),ex (.int .i64 e)]):=
 .of2 (.cell A L M C (Sy _) (by rw[Yar];exact I.symm)) (.cell1 B S v E rfl) (D.le.refl _)
theorem UJ{T:List PanicEntry}{N:AS->Prop}{Q:Exit->AS->Prop}{σ:AS}(h:Q (.panic T) σ):AThen N Q (.panic T) σ:=⟨h⟩
structure FinD(enc:Fct->List Nat)(l:List Nat)(vs:List Value)(e:Exit)(σ:AS):Prop where
 h:(e=.ret/\Rets prog σ #[.cell 2 48,.cell 3 49] (OX enc l))\/(e=.panic rCh/\NC enc l=none/\∃g z,AS.le σ ⟨[(2,.ptr 0 0),(3,.ptr 1 0)],Lh g z++[.pin (FD [] 0 vs)]⟩)
theorem MW(xf:Fct->List Nat)(P:∀f,B8 (xf f))(T:TypeId)(l:List Nat)(J:Byt l)(S:l.length<=40000)(V:∀f m,OU G0 l=some (f,m)->Abs prog 14 [AP (El f)] (GX 5 (xf f))):Abs prog 11 [GX T l] (OX xf l):=by
 have xi:=Ag func11 ZbI ZbI;refine⟨xi,λs c X xn r=>calls_of_wp_defers func11 rfl ?_⟩;rw[ntmps11];refine wp_seq (wp_mono (AWp.run (s0:=⟨s,λ_=>False,[]⟩) (n:=17) (Q:=λe d=>e=.normal/\AS.le d ⟨[(2,.ptr 0 0),(3,.ptr 1 0),(0,.d (GX T l))],Lh OW 0⟩) (σ:=⟨params 0 [GX T l],[]⟩) ?hA1 _ _ ⟨s,λ_=>undef,rfl,GS.LeX.refl _ s,X,λt Z M=>?hfr,by simp;have:=xn;simp at this;omega,rfl,(λi o E=>by cases E),(λi j o w _ E=>by cases E),(λi o b E=>by cases E)⟩) ?post)
 case hfr=>
  obtain⟨_,B,L⟩:=KQ M;rw[Nat.sub_zero]at B L;subst L;have S:=r t B;have n:t<c.length:=by omega
  show(DK [GX T l] t).rel s ((c.toArray++Array.replicate (17-c.toArray.size) undef).getD t undef)
  have:(c.toArray++Array.replicate (17-c.toArray.size) undef).getD t undef=c.getD t undef:=by
   exact Zii
  rw[this];exact S
 case hA1=>
  refine Go ?_;refine⟨rfl,?_⟩;exact Ac ZcT Zcv
 case post=>
  rintro e a1 H ⟨xm,⟨rfl,xa⟩,Y⟩;obtain⟨U,W,rfl,Q⟩:=xa _ _ _ _ Y
  have t2:a1.eval (.tmp 2)=W 0:=by
   obtain⟨-,b,A,B⟩:=Q.fr 2 _ rfl;exact B.trans A.symm
  have t3:a1.eval (.tmp 3)=W 1:=by
   obtain⟨-,b,A,B⟩:=Q.fr 3 _ rfl;exact B.trans A.symm
  show Code.wp _ _ _ a1 U.w;refine wp_seq ?_;refine wp_region_lit ?_;refine wpList_plain rfl λK hK=>?_;unfold Oper.wp;simp[execOp,Instr.makeFunc,t2,t3];show K (a1.put (some 5) (.func (.func 41) #[] #[W 0,W 1])) U.w;have xt:5<a1.tmps.size:=by rw[Q.sz];decide
  have t5:(a1.put (some 5) (.func (.func 41) #[] #[W 0,W 1])).eval (.tmp 5)=.func (.func 41) #[] #[W 0,W 1]:=by
   show(a1.tmps.set! 5 _).getD 5 undef=_;simp[Yay,Array.set!,xt]
  have xp:∀t,t≠5->(a1.put (some 5) (.func (.func 41) #[] #[W 0,W 1])).tmps.getD t undef=a1.tmps.getD t undef:=λt M=>by
   show(a1.tmps.set! 5 _).getD t undef=_;simp[Yay,Array.set!,Array.getElem?_setIfInBounds,Ne.symm M]
  refine hK _ _ ?_;refine wpList_plain rfl λK' xr=>?_;unfold Oper.wp;simp[execOp,resolve,t5];show K' { (a1.put (some 5) (.func (.func 41) #[] #[W 0,W 1]))with defers:=⟨.fn (.func 41) #[W 0,W 1],#[]⟩::a1.defers } U.w;refine xr _ _ (wpList_nil ?_);show Code.wp _ _ (bodyPostD _ _ _) _ U.w;have xs:a1.defers=[]:=Q.df;rw[xs];refine wp_mono (AWp.run (s0:=⟨s,λ_=>False,[⟨.fn (.func 41) #[W 0,W 1],#[]⟩]⟩) (n:=17) (Q:=FinD xf l [W 0,W 1]) (σ:=⟨[(2,.ptr 0 0),(3,.ptr 1 0),(0,.d (GX T l))],Lh OW 0++[.pin (FD [] 0 [W 0,W 1])]⟩) ?hA2 _ _ ⟨U,W,rfl,Q.le,Q.ok,λt Z M=>?hfr2,?hsz2,rfl,λi o E=>?hhp2,λi j o w xc E a b F xb=>?hsep2,λi o b E F=>?hown2⟩) ?post2
  case hsz2=>exact(Array.size_set! ..).trans Q.sz
  case hfr2=>
   match t,M with
   |0,M=>cases M;exact(xp 0 ZbH).symm▸Q.fr 0 _ rfl
   |2,M=>
    cases M;obtain⟨-,b,A,B⟩:=Q.fr 2 _ rfl;exact⟨YbR _,b,A,(xp 2 ZbH).trans B⟩
   |3,M=>
    cases M;obtain⟨-,b,A,B⟩:=Q.fr 3 _ rfl;exact⟨YdR (YbR _),b,A,(xp 3 ZbH).trans B⟩
  case hhp2=>
   match i,E with
   |0,E=>cases E;exact(Q.hp 0 _ rfl).varD rfl
   |1,E=>cases E;exact(Q.hp 1 _ rfl).varD rfl
   |2,E=>
    cases E;intro p G;obtain⟨k,C,rfl⟩:=KP G
    match k,C with
    |0,_=>exact⟨YbR _,rfl⟩
    |1,_=>exact Zks
  case hsep2=>
   have key:∀(i:Nat) (o:Ow),(Lh OW 0++[Ow.pin (FD [] 0 [W 0,W 1])])[i]? = some o->(Lh OW 0)[i]? = some o\/o=Ow.pin (FD [] 0 [W 0,W 1]):=λi o E=>by
    match i,E with
    |0,E=>exact .inl E
    |1,E=>exact .inl E
    |2,E=>cases E;exact .inr rfl
   rcases key i o E with E | rfl
   .rcases key j w a with a | rfl
    .exact Q.sep i j o w xc E a b F xb
    .exact xb
   .exact F
  case hown2=>
   match i,E with
   |0,E=>exact Q.own 0 o b E F
   |1,E=>exact Q.own 1 o b E F
   |2,E=>cases E;exact F.elim
  case hA2=>
   have I:=A9L T l J;refine Go ?_;refine Bc [3] [] [] (I) (BX rfl) (λq=>(by(repeat refine UJ ?_);exact⟨.inr ⟨rfl,by unfold NC;rw[q],OW,0,Ac ZdY ZdJ⟩⟩)) rfl rfl ZbC ZbA ZbH Zby ZbE trivial rfl ?_;rintro _ _ ⟨f,y,A,xa,rfl,rfl⟩;refine Kr ?_;have u:=V f y A;refine Go ?_;refine Dy 6 ?_;refine DO ?_;refine⟨_,HStep.q rfl (HJ (l:=xf f) rfl (Aa rfl) (Aa rfl) (Aa rfl)),?_⟩;refine DO ?_;refine Xq (HJ (l:=l) rfl (Aa rfl) (Aa rfl) (Aa rfl)) ?_;refine⟨_,HStep.q rfl (Zd (b:=xf f) (c:=l) rfl rfl (P f) J.lt),?_⟩;refine DO ?_;by_cases O:xf f=l
   .rw [Yak O]
    refine Go ?_;have xe:NC xf l=some f:=by unfold NC;rw[A];exact Yan O
    have xk:OX xf l=FY [AP (El f),ex (.int .i64 0)]:=by simp[OX,A3d,A3e,xe]
    refine⟨.inl ⟨rfl,?_⟩⟩;rw[xk];exact A4R rfl rfl rfl rfl (Aa rfl) rfl rfl (Aa rfl) rfl
   .rw [Yad O]
    have xe:NC xf l=none:=by unfold NC;rw[A];exact Yai O
    refine Zha ?_;refine Dr (ao rfl) ?_
    (repeat refine UJ ?_);exact⟨.inr ⟨rfl,xe,f,0,Ac ZdY ZdJ⟩⟩
  case post2=>
   rintro e a2 w2 ⟨xq,hF,xj⟩;rcases hF.h with⟨rfl,R⟩ | ⟨rfl,hno,g,z,hle⟩
   .obtain ⟨s2,xh,rfl,xg⟩:=xj
    show Leaves _ _ a2.tmps _ a2.defers .returning s2.w;rw[show a2.defers=[⟨.fn (.func 41) #[W 0,W 1],#[]⟩]from xg.df];refine leaves_cons ZbS rfl ((A0v _ _ _).mono ?_);rintro e u' N ⟨⟨v,rfl⟩,rfl,rfl⟩;obtain⟨x,A,B⟩:=R.run _ xh s2 a2.tmps Tryz.f11 rfl xg.hp xg.fr;exact⟨x,A,x,rfl,s2,rfl,xg.le.le λ_ h=>h,B⟩
   .obtain ⟨s2,xh,rfl,xg⟩:=hle _ _ _ _ xj
    have G:=xg.hp 2 _ rfl;have r0:W 0=xh 0:=(G (W 0,.own 0) (by simp[FD])).2;have r1:W 1=xh 1:=(G (W 1,.own 1) (by simp[FD])).2;show Leaves _ _ a2.tmps _ a2.defers (.panicking rCh) s2.w;rw[show a2.defers=[⟨.fn (.func 41) #[W 0,W 1],#[]⟩]from xg.df,r0,r1];refine leaves_cons ZbS rfl ((A3g s2 xh g z xg.ok (λi o E=>?hp3) (λi j o w xc E a=>?sep3)).mono ?_)
    case hp3=>
     match i,E with
     |0,E=>cases E;exact(xg.hp 0 _ rfl).varD rfl
     |1,E=>cases E;exact(xg.hp 1 _ rfl).varD rfl
    case sep3=>
     have key:∀(i:Nat) (o:Ow),(Lh g z)[i]? = some o->(Lh g z++[Ow.pin (FD [] 0 [W 0,W 1])])[i]? = some o:=λi o E=>by
      match i,E with
      |0,E=>exact E
      |1,E=>exact E
     exact xg.sep i j o w xc (key _ _ E) (key _ _ a)
    rintro e u' N ⟨⟨v,rfl⟩,xl,s3,rfl,xd,xu,xo⟩;show Leaves _ _ a2.tmps _ [] (settle u') s3.w;rw[xl];have R:Rets prog ⟨[(2,.ptr 0 0),(3,.ptr 1 0)],Lh OW 3⟩ #[.cell 2 48,.cell 3 49] (FY [AP (El OW),ex (.int .i64 3)]):=A4R rfl rfl rfl rfl (Aa rfl) rfl rfl (Aa rfl) rfl
    have xk:OX xf l=FY [AP (El OW),ex (.int .i64 3)]:=by
     simp[OX,A3d,A3e,hno]
    obtain⟨x,A,B⟩:=R.run 0 xh s3 a2.tmps Tryz.f11 rfl xo λt Z M=>by
     match t,M with
     |2,M=>
      cases M;obtain⟨-,b,A,B⟩:=xg.fr 2 _ rfl;exact⟨YbR _,b,A,B⟩
     |3,M=>
      cases M;obtain⟨-,b,A,B⟩:=xg.fr 3 _ rfl;exact⟨YdR (YbR _),b,A,B⟩
    refine⟨x,A,x,rfl,s3,rfl,xg.le.le2 xd λb F=>?_,by rw[xk];exact B⟩;obtain⟨i,o,E,F⟩:=F
    match i,E with
    |0,E=>exact(xg.own 0 o b E F).elim False.elim id
    |1,E=>exact(xg.own 1 o b E F).elim False.elim id
end
