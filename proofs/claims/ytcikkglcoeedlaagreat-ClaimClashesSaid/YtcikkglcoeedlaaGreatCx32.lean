/- Part 32 of the proof of claimClashes_holds. No condition. -/
import Derived.Recover
import Derived.WalkKit
import Derived.Test.YtcikkglcoeedlaaGreatCx19
import Derived.Test.YtcikkglcoeedlaaGreatCx20
import Derived.Test.YtcikkglcoeedlaaGreatCx23
import Derived.Test.YtcikkglcoeedlaaGreatCx24
import Derived.Test.YtcikkglcoeedlaaGreatCx25
import Derived.Test.YtcikkglcoeedlaaGreatCx28
set_option linter.unusedSimpArgs false
set_option linter.unusedVariables false
set_option maxRecDepth 100000
set_option maxHeartbeats 2000000
namespace Go.Proofs.YtcikkglcoeedlaaGreat
variable{c:List D}{n b T m e k:Nat}{vg vZ:Nat->Value}{P:Program}{z v:Value}
section
open Go.RowKit
theorem VS(p q:Value)(w:World):CallsD Tryz.prog 41 #[p,q] .returning w λe u O=>(∃v,e=.returned v)/\u=.returning/\O=w:=by
 refine callsD_of_wpS Tryz.func41 rfl λJ Z M=>?_;apply wpS_seq;apply wpS_region;simp[wpOpsS,go_sem,recoverD,M,Tryz.ntmps41,Exit.thenS];refine wpS_cond (t:=false) (by simp[Act.eval,Array.replicate]) ?_;simp only[Bool.false_eq_true,if_false];refine wpS_of_wp (wp_skip ?_);refine⟨rfl,.returning,?_,?_⟩
 .cases J
  simp_all
 .exact ⟨.tuple #[],by simp[results,Tryz.results41],⟨_,rfl⟩,rfl,rfl⟩
def Mn:Fct:=⟨⟨0,[],[]⟩,⟨0,[],0,0,0,[],[],[],[]⟩,⟨0,[],[],[],[],[],[],⟨λ_=>0,[],λ_=>[]⟩,[],[],[],[]⟩⟩
abbrev Jr(f:Fct)(e:Int):List Ow:=[.var 48 ((EN f).map .d),.var 49 ([ex (.int .i64 e)].map .d)]
structure FinK(vs:List Value)(e:Exit)(σ:AS):Prop where
 how:e=.normal
 hp:AS.le σ ⟨[],Jr Mn 3++[.pin (Ey [] 0 vs)]⟩
theorem OwR.varD{s:GS}{i F:Nat}(h:OwR n b vg s i (.var F (c.map .d)))(v:vZ i=vg i):OwR n T vZ s i (.var F (c.map .d)):=by
 obtain⟨A,E,B,C,I,V,m,y,e⟩:=h;refine⟨A,E,v.trans B,C,I,V,m,y,λk H G=>?_⟩;obtain⟨u,K,Z,L⟩:=e k H G;refine⟨u,K,Z,?_⟩;rw[List.getElem?_map]at G
 cases W:c[k]? with
 |none=>rw[W]at G;cases G
 |some x=>rw[W]at G;cases G;exact L
theorem Zq(s:GS)(S:Nat->Value)(g:Fct)(z:Int)(T:s.Ok)(a:HpOk 0 S s (Jr g z))(m:Sep s S (Jr g z)) :
  CallsD Tryz.prog 41 #[S 0,S 1] (.panicking rCh) s.w λe X O=>(∃v,e=.returned v)/\settle X=.returning/\∃c:GS,c.w=O/\GS.LeX (GU s S (Jr g z)) s c/\c.Ok/\HpOk 0 S c (Jr Mn 3):=by
 refine callsD_of_wpS Tryz.func41 rfl λJ Z N=>?_;apply wpS_seq;apply wpS_region;simp[wpOpsS,go_sem,recoverD,N,Tryz.ntmps41,Exit.thenS];refine wpS_cond (t:=true) (by simp[Act.eval,Array.replicate]) ?_;simp only[if_true];refine wpS_of_wp (wp_mono (AWp.run (s0:=⟨s,GU s S (Jr g z),[]⟩) (n:=5) (Q:=FinK [S 0,S 1]) (σ:=⟨[(0,.ptr 0 0),(1,.ptr 1 0)],Jr g z++[.pin (Ey [] 0 [S 0,S 1])]⟩) ?hA _ _ ?hst) ?post)
 case hA=>
  apply AWp.region;(refine CA rfl rfl ?_;(refine AP (Aa rfl) rfl rfl rfl ?_;(repeat ((first | refine⟨_,As (ao rfl),?_⟩ | refine⟨_,Po rfl,?_⟩);refine⟨_,rfl,?_⟩));refine⟨_,rfl,?_⟩));refine Sf ?_;refine JF (ao rfl) (ao rfl) rfl (Aa rfl) Zcg rfl rfl ?_;apply AWl.nil;refine⟨rfl,?_⟩;exact Ac (by exact FrLe.nil) (by refine HpLe.cons (OwLe.cells ZbR) ?_;refine HpLe.cons (OwLe.cells ZbR) ?_;exact HpLe.cons (Ai rfl)<|HpLe.nil)
 case hst=>
  have C:=a 0 _ rfl;have u:=a 1 _ rfl;obtain⟨l,_,f,_⟩:=id C;obtain⟨n,_,d,_⟩:=id u;refine⟨s,S,rfl,GS.LeX.refl _ s,T,λt H M=>?_,by simp,rfl,λi o K=>?_,λi j o I W K G b E V=>?_,λi o b K E=>?_⟩
  .match t,M with
   |0,M=>cases M;exact⟨Nat.zero_lt_succ _,l,f,f⟩
   |1,M=>cases M;exact⟨Nat.succ_lt_succ (Nat.zero_lt_succ _),n,d,d⟩
  .match i,K with
   |0,K=>cases K;exact C.varD rfl
   |1,K=>cases K;exact u.varD rfl
   |2,K=>
    cases K;intro p F;obtain⟨k,B,rfl⟩:=Jg F
    match k,B with
    |0,_=>exact⟨Nat.zero_lt_succ _,rfl⟩
    |1,_=>exact Zia
  .have key:∀(i:Nat) (o:Ow),(Jr g z++[Ow.pin (Ey [] 0 [S 0,S 1])])[i]? = some o->(Jr g z)[i]? = some o\/o=Ow.pin (Ey [] 0 [S 0,S 1]):=λi o K=>by
    match i,K with
    |0,K=>exact .inl K
    |1,K=>exact .inl K
    |2,K=>cases K;exact .inr rfl
   rcases key i o K with K | rfl
   .rcases key j I G with G | rfl
    .exact m i j o I W K G b E V
    .exact V
   .exact E
  .match i,K with
   |0,K=>cases K;exact .inl ⟨0,_,rfl,E⟩
   |1,K=>cases K;exact .inl ⟨1,_,rfl,E⟩
   |2,K=>cases K;exact E.elim
 case post=>
  rintro e Q O ⟨Y,⟨rfl,L⟩,A⟩;obtain⟨c,R,rfl,w⟩:=L _ _ _ _ A;have F:=w.hp 2 _ rfl;have q:S 0=R 0:=(F (S 0,.own 0) (by simp[Ey])).2;have h:S 1=R 1:=(F (S 1,.own 1) (by simp[Ey])).2;refine⟨w.df,.panicking [{ v:=.iface 49 (.int .i64 3),recovered:=true }],rfl,.tuple #[],by simp[results,Tryz.results41],⟨_,rfl⟩,rfl,c,rfl,w.le,w.ok,λi o K=>?_⟩
  match i,K with
  |0,K=>cases K;exact(w.hp 0 _ rfl).varD q
  |1,K=>cases K;exact(w.hp 1 _ rfl).varD h
open Classical
theorem ResV.cell1{f:AS}{d:TypeDesc}{x:D}(h:BR f.fr n=some (.ptr k 0))(i:f.hp[k]? = some (.var T (c.map .d)))(M:Tab P b d m e z)(W:DS d=false)(G:c[0]? = some x):ResV P f (.cell n b) x:=by
 refine⟨λbase S s O a N=>?_⟩;obtain⟨-,g,I,A⟩:=N n _ h;obtain⟨R,Z,V,B,y,C,E,K,F⟩:=a k _ i;rw[I]at V;cases V;obtain⟨u,L,J,Q⟩:=F 0 (.d x) (by rw[List.getElem?_map,G];rfl);have:s.w.cell? ⟨g,0,none⟩=some u:=(CH y).trans L;exact⟨u,by simp[El,A,asAddr,loadVar,M.run_agg,W,this],Q⟩
noncomputable def Nw (n:Fct->List Nat) (l:List Nat):Option Fct:=match Pc G0 l with
 |some (f,_)=>if n f=l then some f else none
 |none=>none
noncomputable def A1b (n:Fct->List Nat) (l:List Nat):Fct:=(Nw n l).getD Mn
noncomputable def A1c (n:Fct->List Nat) (l:List Nat):Int:=if(Nw n l).isSome=true then 0 else 3
noncomputable abbrev Qn (n:Fct->List Nat) (l:List Nat):D:=EX [AL (EN (A1b n l)),ex (.int .i64 (A1c n l))]
theorem GS.LeX.le2{m:Nat->Prop}{s s2 s3:GS}(h:GS.LeX (λ_=>False) s s2)(k:GS.LeX m s2 s3)(u:∀b,m b->s.w.heap.size<=b):GS.Le s s3:=
 GS.LeX.le (mine:=λ_=>False) (λ_ h=>h) ⟨k.os.trans h.os,k.tape.trans h.tape,k.output.trans h.output,λx C _=>(k.block x (Nat.lt_of_lt_of_le C h.size) λE=>absurd (u x E) Zbx).trans (h.block x C λh=>h),h.chg.trans k.chg,λb j E _ i=>h.old b j E (λh=>h) (k.old b j (Nat.lt_of_lt_of_le E h.size) (λC=>absurd (u b C) Zbx) i),λb E=>(k.tag b (Nat.lt_of_lt_of_le E h.size)).trans (h.tag b E),λd=>k.ok (h.ok d)⟩
theorem A0t{σ:AS}{f:Fct}{u:Int}{d C:TypeDesc}(A:BR σ.fr 2=some (.ptr 0 0))(B:BR σ.fr 3=some (.ptr 1 0))(I:σ.hp[0]? = some (.var e ((EN f).map .d)))(V:σ.hp[1]? = some (.var k ([ex (.int .i64 u)].map .d)))(M:Tab P e d n b z)(W:DS d=true)(G:n=(EN f).length)(J:Tab P k C T m v)(L:DS C=false):Rets P σ #[.cell 2 e,.cell 3 k] (EX [AL (EN f),ex (.int .i64 u)]):=
 .of2 (.cell A I M W (PA _) (by rw[List.length_map];exact G.symm)) (.cell1 B V J L rfl) (D.le.refl _)
theorem RD{q:List PanicEntry}{N:AS->Prop}{Q:Exit->AS->Prop}{σ:AS}(h:Q (.panic q) σ):AThen N Q (.panic q) σ:=⟨h⟩
structure FinD(enc:Fct->List Nat)(l:List Nat)(vs:List Value)(e:Exit)(σ:AS):Prop where
 h:(e=.ret/\Rets Tryz.prog σ #[.cell 2 48,.cell 3 49] (Qn enc l))\/(e=.panic rCh/\Nw enc l=none/\∃g z,AS.le σ ⟨[(2,.ptr 0 0),(3,.ptr 1 0)],Jr g z++[.pin (Ey [] 0 vs)]⟩)
theorem PV(xf:Fct->List Nat)(U:∀f,B8 (xf f))(T:TypeId)(l:List Nat)(L:Byt l)(V:l.length<=40000)(X:∀f m,Pc G0 l=some (f,m)->Abs Tryz.prog 14 [AL (EN f)] (FC 5 (xf f))):Abs Tryz.prog 11 [FC T l] (Qn xf l):=by
 have xi:=Ag Tryz.func11 Zbz Zbz;refine⟨xi,λs d c xn Z=>calls_of_wp_defers Tryz.func11 rfl ?_⟩;rw[Tryz.ntmps11];refine wp_seq (wp_mono (AWp.run (s0:=⟨s,λ_=>False,[]⟩) (n:=17) (Q:=λe Q=>e=.normal/\AS.le Q ⟨[(2,.ptr 0 0),(3,.ptr 1 0),(0,.d (FC T l))],Jr Mn 0⟩) (σ:=⟨params 0 [FC T l],[]⟩) ?hA1 _ _ ⟨s,λ_=>undef,rfl,GS.LeX.refl _ s,c,λt H M=>?hfr,by simp;have:=xn;simp at this;omega,rfl,(λi o C=>by cases C),(λi j o W _ C=>by cases C),(λi o b C=>by cases C)⟩) ?post)
 case hfr=>
  obtain⟨_,A,I⟩:=Ji M;rw[Nat.sub_zero]at A I;subst I;have V:=Z t A;have Y:t<d.length:=by omega
  show(Df [FC T l] t).rel s ((d.toArray++Array.replicate (17-d.toArray.size) undef).getD t undef)
  have:(d.toArray++Array.replicate (17-d.toArray.size) undef).getD t undef=d.getD t undef:=by
   exact ZeV
  rw[this];exact V
 case hA1=>
  refine Go ?_;refine⟨rfl,?_⟩;exact Ac Zcu Zdc
 case post=>
  rintro e a1 r ⟨xm,⟨rfl,xa⟩,N⟩;obtain⟨P,S,rfl,w⟩:=xa _ _ _ _ N
  have t2:a1.eval (.tmp 2)=S 0:=by
   obtain⟨-,b,u,A⟩:=w.fr 2 _ rfl;exact A.trans u.symm
  have t3:a1.eval (.tmp 3)=S 1:=by
   obtain⟨-,b,u,A⟩:=w.fr 3 _ rfl;exact A.trans u.symm
  show Code.wp _ _ _ a1 P.w;refine wp_seq ?_;refine wp_region_lit ?_;refine wpList_plain rfl λK hK=>?_;unfold Oper.wp;simp[execOp,Instr.makeFunc,t2,t3];show K (a1.put (some 5) (.func (.func 41) #[] #[S 0,S 1])) P.w;have xt:5<a1.tmps.size:=by rw[w.sz];decide
  have t5:(a1.put (some 5) (.func (.func 41) #[] #[S 0,S 1])).eval (.tmp 5)=.func (.func 41) #[] #[S 0,S 1]:=by
   show(a1.tmps.set! 5 _).getD 5 undef=_;simp[Array.getD_eq_getD_getElem?,Array.set!,xt]
  have xo:∀t,t≠5->(a1.put (some 5) (.func (.func 41) #[] #[S 0,S 1])).tmps.getD t undef=a1.tmps.getD t undef:=λt M=>by
   show(a1.tmps.set! 5 _).getD t undef=_;simp[Array.getD_eq_getD_getElem?,Array.set!,Array.getElem?_setIfInBounds,Ne.symm M]
  refine hK _ _ ?_;refine wpList_plain rfl λK' xq=>?_;unfold Oper.wp;simp[execOp,resolve,t5];show K' { (a1.put (some 5) (.func (.func 41) #[] #[S 0,S 1]))with defers:=⟨.fn (.func 41) #[S 0,S 1],#[]⟩::a1.defers } P.w;refine xq _ _ (wpList_nil ?_);show Code.wp _ _ (bodyPostD _ _ _) _ P.w;have xr:a1.defers=[]:=w.df;rw[xr];refine wp_mono (AWp.run (s0:=⟨s,λ_=>False,[⟨.fn (.func 41) #[S 0,S 1],#[]⟩]⟩) (n:=17) (Q:=FinD xf l [S 0,S 1]) (σ:=⟨[(2,.ptr 0 0),(3,.ptr 1 0),(0,.d (FC T l))],Jr Mn 0++[.pin (Ey [] 0 [S 0,S 1])]⟩) ?hA2 _ _ ⟨P,S,rfl,w.le,w.ok,λt H M=>?hfr2,?hsz2,rfl,λi o C=>?hhp2,λi j o W xd C R b E xb=>?hsep2,λi o b C E=>?hown2⟩) ?post2
  case hsz2=>exact(Array.size_set! ..).trans w.sz
  case hfr2=>
   match t,M with
   |0,M=>cases M;exact(xo 0 ZbA).symm▸w.fr 0 _ rfl
   |2,M=>
    cases M;obtain⟨-,b,u,A⟩:=w.fr 2 _ rfl;exact⟨Nat.zero_lt_succ _,b,u,(xo 2 ZbA).trans A⟩
   |3,M=>
    cases M;obtain⟨-,b,u,A⟩:=w.fr 3 _ rfl;exact⟨Nat.succ_lt_succ (Nat.zero_lt_succ _),b,u,(xo 3 ZbA).trans A⟩
  case hhp2=>
   match i,C with
   |0,C=>cases C;exact(w.hp 0 _ rfl).varD rfl
   |1,C=>cases C;exact(w.hp 1 _ rfl).varD rfl
   |2,C=>
    cases C;intro p F;obtain⟨k,B,rfl⟩:=Jg F
    match k,B with
    |0,_=>exact⟨Nat.zero_lt_succ _,rfl⟩
    |1,_=>exact Zia
  case hsep2=>
   have key:∀(i:Nat) (o:Ow),(Jr Mn 0++[Ow.pin (Ey [] 0 [S 0,S 1])])[i]? = some o->(Jr Mn 0)[i]? = some o\/o=Ow.pin (Ey [] 0 [S 0,S 1]):=λi o C=>by
    match i,C with
    |0,C=>exact .inl C
    |1,C=>exact .inl C
    |2,C=>cases C;exact .inr rfl
   rcases key i o C with C | rfl
   .rcases key j W R with R | rfl
    .exact w.sep i j o W xd C R b E xb
    .exact xb
   .exact E
  case hown2=>
   match i,C with
   |0,C=>exact w.own 0 o b C E
   |1,C=>exact w.own 1 o b C E
   |2,C=>cases C;exact E.elim
  case hA2=>
   have G:=A4w T l L;refine Go ?_;refine AJ [3] [] [] (G) (BA rfl) (λq=>(by(repeat refine RD ?_);exact⟨.inr ⟨rfl,by unfold Nw;rw[q],Mn,0,Ac Zdq Zdb⟩⟩)) rfl rfl Zbu Zbt ZbA Zbr Zbw trivial rfl ?_;rintro _ _ ⟨f,x,u,xa,rfl,rfl⟩;refine Kr ?_;have y:=X f x u;refine Go ?_;refine Dy 6 ?_;refine CY ?_;refine⟨_,HStep.q rfl (Gi (l:=xf f) rfl (Aa rfl) (Aa rfl) (Aa rfl)),?_⟩;refine CY ?_;refine Xq (Gi (l:=l) rfl (Aa rfl) (Aa rfl) (Aa rfl)) ?_;refine⟨_,HStep.q rfl (UM (b:=xf f) (c:=l) rfl rfl (U f) L.lt),?_⟩;refine CY ?_;by_cases a:xf f=l
   .rw [decide_eq_true a]
    refine Go ?_;have xe:Nw xf l=some f:=by unfold Nw;rw[u];exact if_pos a
    have xl:Qn xf l=EX [AL (EN f),ex (.int .i64 0)]:=by simp[Qn,A1b,A1c,xe]
    refine⟨.inl ⟨rfl,?_⟩⟩;rw[xl];exact A0t rfl rfl rfl rfl (Aa rfl) rfl rfl (Aa rfl) rfl
   .rw [decide_eq_false a]
    have xe:Nw xf l=none:=by unfold Nw;rw[u];exact if_neg a
    refine Zfx ?_;refine CP (ao rfl) ?_
    (repeat refine RD ?_);exact⟨.inr ⟨rfl,xe,f,0,Ac Zdq Zdb⟩⟩
  case post2=>
   rintro e a2 w2 ⟨xp,hF,xj⟩;rcases hF.h with⟨rfl,J⟩ | ⟨rfl,hno,g,z,hle⟩
   .obtain ⟨s2,xh,rfl,xg⟩:=xj
    show Leaves _ _ a2.tmps _ a2.defers .returning s2.w;rw[show a2.defers=[⟨.fn (.func 41) #[S 0,S 1],#[]⟩]from xg.df];refine leaves_cons ZbK rfl ((VS _ _ _).mono ?_);rintro e u' O ⟨⟨v,rfl⟩,rfl,rfl⟩;obtain⟨n,u,A⟩:=J.run _ xh s2 a2.tmps Tryz.f11 rfl xg.hp xg.fr;exact⟨n,u,n,rfl,s2,rfl,xg.le.le λ_ h=>h,A⟩
   .obtain ⟨s2,xh,rfl,xg⟩:=hle _ _ _ _ xj
    have F:=xg.hp 2 _ rfl;have r0:S 0=xh 0:=(F (S 0,.own 0) (by simp[Ey])).2;have r1:S 1=xh 1:=(F (S 1,.own 1) (by simp[Ey])).2;show Leaves _ _ a2.tmps _ a2.defers (.panicking rCh) s2.w;rw[show a2.defers=[⟨.fn (.func 41) #[S 0,S 1],#[]⟩]from xg.df,r0,r1];refine leaves_cons ZbK rfl ((Zq s2 xh g z xg.ok (λi o C=>?hp3) (λi j o W xd C R=>?sep3)).mono ?_)
    case hp3=>
     match i,C with
     |0,C=>cases C;exact(xg.hp 0 _ rfl).varD rfl
     |1,C=>cases C;exact(xg.hp 1 _ rfl).varD rfl
    case sep3=>
     have key:∀(i:Nat) (o:Ow),(Jr g z)[i]? = some o->(Jr g z++[Ow.pin (Ey [] 0 [S 0,S 1])])[i]? = some o:=λi o C=>by
      match i,C with
      |0,C=>exact C
      |1,C=>exact C
     exact xg.sep i j o W xd (key _ _ C) (key _ _ R)
    rintro e u' O ⟨⟨v,rfl⟩,xk,s3,rfl,xc,xu,xs⟩;show Leaves _ _ a2.tmps _ [] (settle u') s3.w;rw[xk];have J:Rets Tryz.prog ⟨[(2,.ptr 0 0),(3,.ptr 1 0)],Jr Mn 3⟩ #[.cell 2 48,.cell 3 49] (EX [AL (EN Mn),ex (.int .i64 3)]):=A0t rfl rfl rfl rfl (Aa rfl) rfl rfl (Aa rfl) rfl
    have xl:Qn xf l=EX [AL (EN Mn),ex (.int .i64 3)]:=by
     simp[Qn,A1b,A1c,hno]
    obtain⟨n,u,A⟩:=J.run 0 xh s3 a2.tmps Tryz.f11 rfl xs λt H M=>by
     match t,M with
     |2,M=>
      cases M;obtain⟨-,b,u,A⟩:=xg.fr 2 _ rfl;exact⟨Nat.zero_lt_succ _,b,u,A⟩
     |3,M=>
      cases M;obtain⟨-,b,u,A⟩:=xg.fr 3 _ rfl;exact⟨Nat.succ_lt_succ (Nat.zero_lt_succ _),b,u,A⟩
    refine⟨n,u,n,rfl,s3,rfl,xg.le.le2 xc λb E=>?_,by rw[xl];exact A⟩;obtain⟨i,o,C,E⟩:=E
    match i,C with
    |0,C=>exact(xg.own 0 o b C E).elim False.elim id
    |1,C=>exact(xg.own 1 o b C E).elim False.elim id
end
end Go.Proofs.YtcikkglcoeedlaaGreat
