/- Part 31. No condition. -/
import Derived.Recover
import Derived.WalkKit
import Derived.Test.YtcikkglcoeedlaaGreatDf18
import Derived.Test.YtcikkglcoeedlaaGreatDf19
import Derived.Test.YtcikkglcoeedlaaGreatDf21
import Derived.Test.YtcikkglcoeedlaaGreatDf23
import Derived.Test.YtcikkglcoeedlaaGreatDf25
set_option linter.unusedSimpArgs false
set_option linter.unusedVariables false
set_option maxRecDepth 100000
set_option maxHeartbeats 2000000
namespace Go.Proofs.YtcikkglcoeedlaaGreat
open _root_.Go.Proofs.Tryz
variable{v:List D}{n b T m c k:Nat}{vi ua:Nat->Value}{P:Program}{z u:Value}
section
open Go.RowKit
theorem A0H(p q:Value)(w:World):CallsD prog 41 #[p,q] .returning w λe x M=>(∃v,e=.returned v)/\x=.returning/\M=w:=by
 refine callsD_of_wpS func41 rfl λA f S=>?_;apply wpS_seq;apply wpS_region;simp[wpOpsS,go_sem,recoverD,S,ntmps41,Exit.thenS];refine wpS_cond (t:=false) (by simp[Act.eval,Array.replicate]) ?_;simp only[Bool.false_eq_true,if_false];refine wpS_of_wp (wp_skip ?_);refine⟨rfl,.returning,?_,?_⟩
 .cases A
  simp_all
 .exact ⟨.tuple #[],by simp[results,Tryz.results41],⟨_,rfl⟩,rfl,rfl⟩
def Pc:Fct:=⟨⟨0,[],[]⟩,⟨0,[],0,0,0,[],[],[],[]⟩,⟨0,[],[],[],[],[],[],⟨λ_=>0,[],λ_=>[]⟩,[],[],[],[]⟩⟩
abbrev Lj(f:Fct)(e:Int):List Ow:=[.var 48 ((Eb f).map .d),.var 49 ([ex (.int .i64 e)].map .d)]
structure FinK(vs:List Value)(e:Exit)(σ:AS):Prop where
 how:e=.normal
 hp:AS.le σ ⟨[],Lj Pc 3++[.pin (FA [] 0 vs)]⟩
theorem OwR.varD{s:GS}{i C:Nat}(h:OwR n b vi s i (.var C (v.map .d)))(J:ua i=vi i):OwR n T ua s i (.var C (v.map .d)):=by
 obtain⟨q,c,A,B,K,Y,F,G,f⟩:=h;refine⟨q,c,J.trans A,B,K,Y,F,G,λk I E=>?_⟩;obtain⟨u,y,W,X⟩:=f k I E;refine⟨u,y,W,?_⟩;rw[Yau]at E
 cases e:v[k]? with
 |none=>rw[e]at E;cases E
 |some x=>rw[e]at E;cases E;exact X
theorem A3v(s:GS)(X:Nat->Value)(g:Fct)(z:Int)(K:s.Ok)(O:HpOk 0 X s (Lj g z))(c:Sep s X (Lj g z)) :
  CallsD prog 41 #[X 0,X 1] (.panicking rCh) s.w λe x M=>(∃v,e=.returned v)/\settle x=.returning/\∃C:GS,C.w=M/\GS.LeX (IJ s X (Lj g z)) s C/\C.Ok/\HpOk 0 X C (Lj Pc 3):=by
 refine callsD_of_wpS func41 rfl λh f S=>?_;apply wpS_seq;apply wpS_region;simp[wpOpsS,go_sem,recoverD,S,ntmps41,Exit.thenS];refine wpS_cond (t:=true) (by simp[Act.eval,Array.replicate]) ?_;simp only[if_true];refine wpS_of_wp (wp_mono (AWp.run (s0:=⟨s,IJ s X (Lj g z),[]⟩) (n:=5) (Q:=FinK [X 0,X 1]) (σ:=⟨[(0,.ptr 0 0),(1,.ptr 1 0)],Lj g z++[.pin (FA [] 0 [X 0,X 1])]⟩) ?hA _ _ ?hst) ?post)
 case hA=>
  apply AWp.region;(refine Df rfl rfl ?_;(refine AI (Aa rfl) rfl rfl rfl ?_;(repeat ((first | refine⟨_,Az (ao rfl),?_⟩ | refine⟨_,Po rfl,?_⟩);refine⟨_,rfl,?_⟩));refine⟨_,rfl,?_⟩));refine Sf ?_;refine De (ao rfl) (ao rfl) rfl (Aa rfl) ZbX rfl rfl ?_;apply AWl.nil;refine⟨rfl,?_⟩;exact Ac (by exact FrLe.nil) (by refine HpLe.cons (OwLe.cells ZcO) ?_;refine HpLe.cons (OwLe.cells ZcO) ?_;exact HpLe.cons (Ak rfl)<|HpLe.nil)
 case hst=>
  have d:=O 0 _ rfl;have q:=O 1 _ rfl;obtain⟨m,_,l,_⟩:=id d;obtain⟨V,_,A,_⟩:=id q;refine⟨s,X,rfl,GS.LeX.refl _ s,K,λt N L=>?_,by simp,rfl,λi o J=>?_,λi j o F r J W b E T=>?_,λi o b J E=>?_⟩
  .match t,L with
   |0,L=>cases L;exact⟨YbZ _,m,l,l⟩
   |1,L=>cases L;exact⟨Ydn (YbZ _),V,A,A⟩
  .match i,J with
   |0,J=>cases J;exact d.varD rfl
   |1,J=>cases J;exact q.varD rfl
   |2,J=>
    exact Zbz
  .have key:∀(i:Nat) (o:Ow),(Lj g z++[Ow.pin (FA [] 0 [X 0,X 1])])[i]? = some o->(Lj g z)[i]? = some o\/o=Ow.pin (FA [] 0 [X 0,X 1]):=λi o J=>by
    match i,J with
    |0,J=>exact .inl J
    |1,J=>exact .inl J
    |2,J=>cases J;exact .inr rfl
   rcases key i o J with J | rfl
   .rcases key j F W with W | rfl
    .exact c i j o F r J W b E T
    .exact T
   .exact E
  .match i,J with
   |0,J=>cases J;exact .inl ⟨0,_,rfl,E⟩
   |1,J=>cases J;exact .inl ⟨1,_,rfl,E⟩
   |2,J=>cases J;exact E.elim
 case post=>
  rintro e a M ⟨n,⟨rfl,I⟩,Z⟩;obtain⟨C,H,rfl,P⟩:=I _ _ _ _ Z;have G:=P.hp 2 _ rfl;have Y:X 0=H 0:=(G (X 0,.own 0) (by simp[FA])).2;have Q:X 1=H 1:=(G (X 1,.own 1) (by simp[FA])).2;refine⟨P.df,.panicking [{ v:=.iface 49 (.int .i64 3),recovered:=true }],rfl,.tuple #[],by simp[results,Tryz.results41],⟨_,rfl⟩,rfl,C,rfl,P.le,P.ok,λi o J=>?_⟩
  match i,J with
  |0,J=>cases J;exact(P.hp 0 _ rfl).varD Y
  |1,J=>cases J;exact(P.hp 1 _ rfl).varD Q
open Classical
theorem ResV.cell1{A:AS}{d:TypeDesc}{x:D}(h:Ch A.fr n=some (.ptr k 0))(G:A.hp[k]? = some (.var T (v.map .d)))(L:Tab P b d m c z)(e:Fa d=false)(F:v[0]? = some x):ResV P A (.cell n b) x:=by
 refine⟨λbase X s O Z M=>?_⟩;obtain⟨-,g,K,q⟩:=M n _ h;obtain⟨Q,f,Y,B,C,E,y,W,I⟩:=Z k _ G;rw[K]at Y;cases Y;obtain⟨u,J,o,N⟩:=I 0 (.d x) (by rw[Yau,F];rfl);have:s.w.cell? ⟨g,0,none⟩=some u:=(Db C).trans J;exact⟨u,by simp[Fk,q,asAddr,loadVar,L.run_agg,e,this],N⟩
noncomputable def Qw (K:Fct->List Nat) (l:List Nat):Option Fct:=match Sy G0 l with
 |some (f,_)=>if K f=l then some f else none
 |none=>none
noncomputable def A5W (K:Fct->List Nat) (l:List Nat):Fct:=(Qw K l).getD Pc
noncomputable def A5X (K:Fct->List Nat) (l:List Nat):Int:=if(Qw K l).isSome=true then 0 else 3
noncomputable abbrev TL (K:Fct->List Nat) (l:List Nat):D:=Gb [AQ (Eb (A5W K l)),ex (.int .i64 (A5X K l))]
theorem GS.LeX.le2{m:Nat->Prop}{s s2 s3:GS}(h:GS.LeX (λ_=>False) s s2)(k:GS.LeX m s2 s3)(q:∀b,m b->s.w.heap.size<=b):GS.Le s s3:=
 GS.LeX.le (mine:=λ_=>False) (λ_ h=>h) ⟨k.os.trans h.os,k.tape.trans h.tape,k.output.trans h.output,λx C _=>(k.block x (Yaq C h.size) λE=>absurd (q x E) ZbG).trans (h.block x C λh=>h),h.chg.trans k.chg,λb j E _ W=>h.old b j E (λh=>h) (k.old b j (Yaq E h.size) (λC=>absurd (q b C) ZbG) W),λb E=>(k.tag b (Yaq E h.size)).trans (h.tag b E),λV=>k.ok (h.ok V)⟩
theorem A53{σ:AS}{f:Fct}{e:Int}{d g:TypeDesc}(q:Ch σ.fr 2=some (.ptr 0 0))(A:Ch σ.fr 3=some (.ptr 1 0))(K:σ.hp[0]? = some (.var c ((Eb f).map .d)))(Y:σ.hp[1]? = some (.var k ([ex (.int .i64 e)].map .d)))(L:Tab P c d n b z)(B:Fa d=true)(F:n=(Eb f).length)(E:Tab P k g T m u)(C:Fa g=false):Rets P σ #[.cell 2 c,.cell 3 k] (Gb [AQ (Eb f),ex (.int .i64 e)]):=
 .of2 (.cell q K L B (SQ _) (by rw[Yap];exact F.symm)) (.cell1 A Y E C rfl) (D.le.refl _)
theorem Vb{R:List PanicEntry}{N:AS->Prop}{Q:Exit->AS->Prop}{σ:AS}(h:Q (.panic R) σ):AThen N Q (.panic R) σ:=⟨h⟩
structure FinD(enc:Fct->List Nat)(l:List Nat)(vs:List Value)(e:Exit)(σ:AS):Prop where
 h:(e=.ret/\Rets prog σ #[.cell 2 48,.cell 3 49] (TL enc l))\/(e=.panic rCh/\Qw enc l=none/\∃g z,AS.le σ ⟨[(2,.ptr 0 0),(3,.ptr 1 0)],Lj g z++[.pin (FA [] 0 vs)]⟩)
theorem Tj(xf:Fct->List Nat)(R:∀f,B8 (xf f))(T:TypeId)(l:List Nat)(I:Byt l)(Y:l.length<=40000)(Q:∀f m,Sy G0 l=some (f,m)->Abs prog 14 [AQ (Eb f)] (Hf 5 (xf f))):Abs prog 11 [Hf T l] (TL xf l):=by
 have xi:=Ag func11 ZbK ZbK;refine⟨xi,λs d S xn r=>calls_of_wp_defers func11 rfl ?_⟩;rw[ntmps11];refine wp_seq (wp_mono (AWp.run (s0:=⟨s,λ_=>False,[]⟩) (n:=17) (Q:=λe c=>e=.normal/\AS.le c ⟨[(2,.ptr 0 0),(3,.ptr 1 0),(0,.d (Hf T l))],Lj Pc 0⟩) (σ:=⟨params 0 [Hf T l],[]⟩) ?hA1 _ _ ⟨s,λ_=>undef,rfl,GS.LeX.refl _ s,S,λt V L=>?hfr,by simp;have:=xn;simp at this;omega,rfl,(λi o J=>by cases J),(λi j o N _ J=>by cases J),(λi o b J=>by cases J)⟩) ?post)
 case hfr=>
  obtain⟨_,A,C⟩:=KR L;rw[Nat.sub_zero]at A C;subst C;have Y:=r t A;have n:t<d.length:=by omega
  show(DM [Hf T l] t).rel s ((d.toArray++Array.replicate (17-d.toArray.size) undef).getD t undef)
  have:(d.toArray++Array.replicate (17-d.toArray.size) undef).getD t undef=d.getD t undef:=by
   exact Zis
  rw[this];exact Y
 case hA1=>
  refine Go ?_;refine⟨rfl,?_⟩;exact Ac ZcY ZcB
 case post=>
  rintro e a1 y ⟨xm,⟨rfl,xa⟩,Z⟩;obtain⟨U,X,rfl,P⟩:=xa _ _ _ _ Z
  have t2:a1.eval (.tmp 2)=X 0:=by
   obtain⟨-,b,q,A⟩:=P.fr 2 _ rfl;exact A.trans q.symm
  have t3:a1.eval (.tmp 3)=X 1:=by
   obtain⟨-,b,q,A⟩:=P.fr 3 _ rfl;exact A.trans q.symm
  show Code.wp _ _ _ a1 U.w;refine wp_seq ?_;refine wp_region_lit ?_;refine wpList_plain rfl λK hK=>?_;unfold Oper.wp;simp[execOp,Instr.makeFunc,t2,t3];show K (a1.put (some 5) (.func (.func 41) #[] #[X 0,X 1])) U.w;have xt:5<a1.tmps.size:=by rw[P.sz];decide
  have t5:(a1.put (some 5) (.func (.func 41) #[] #[X 0,X 1])).eval (.tmp 5)=.func (.func 41) #[] #[X 0,X 1]:=by
   show(a1.tmps.set! 5 _).getD 5 undef=_;simp[YaH,Array.set!,xt]
  have xp:∀t,t≠5->(a1.put (some 5) (.func (.func 41) #[] #[X 0,X 1])).tmps.getD t undef=a1.tmps.getD t undef:=λt L=>by
   show(a1.tmps.set! 5 _).getD t undef=_;simp[YaH,Array.set!,Array.getElem?_setIfInBounds,Ne.symm L]
  refine hK _ _ ?_;refine wpList_plain rfl λK' xr=>?_;unfold Oper.wp;simp[execOp,resolve,t5];show K' { (a1.put (some 5) (.func (.func 41) #[] #[X 0,X 1]))with defers:=⟨.fn (.func 41) #[X 0,X 1],#[]⟩::a1.defers } U.w;refine xr _ _ (wpList_nil ?_);show Code.wp _ _ (bodyPostD _ _ _) _ U.w;have xs:a1.defers=[]:=P.df;rw[xs];refine wp_mono (AWp.run (s0:=⟨s,λ_=>False,[⟨.fn (.func 41) #[X 0,X 1],#[]⟩]⟩) (n:=17) (Q:=FinD xf l [X 0,X 1]) (σ:=⟨[(2,.ptr 0 0),(3,.ptr 1 0),(0,.d (Hf T l))],Lj Pc 0++[.pin (FA [] 0 [X 0,X 1])]⟩) ?hA2 _ _ ⟨U,X,rfl,P.le,P.ok,λt V L=>?hfr2,?hsz2,rfl,λi o J=>?hhp2,λi j o N xc J W b E xb=>?hsep2,λi o b J E=>?hown2⟩) ?post2
  case hsz2=>exact(Array.size_set! ..).trans P.sz
  case hfr2=>
   match t,L with
   |0,L=>cases L;exact(xp 0 ZbL).symm▸P.fr 0 _ rfl
   |2,L=>
    cases L;obtain⟨-,b,q,A⟩:=P.fr 2 _ rfl;exact⟨YbZ _,b,q,(xp 2 ZbL).trans A⟩
   |3,L=>
    cases L;obtain⟨-,b,q,A⟩:=P.fr 3 _ rfl;exact⟨Ydn (YbZ _),b,q,(xp 3 ZbL).trans A⟩
  case hhp2=>
   match i,J with
   |0,J=>cases J;exact(P.hp 0 _ rfl).varD rfl
   |1,J=>cases J;exact(P.hp 1 _ rfl).varD rfl
   |2,J=>
    exact Zbz
  case hsep2=>
   have key:∀(i:Nat) (o:Ow),(Lj Pc 0++[Ow.pin (FA [] 0 [X 0,X 1])])[i]? = some o->(Lj Pc 0)[i]? = some o\/o=Ow.pin (FA [] 0 [X 0,X 1]):=λi o J=>by
    match i,J with
    |0,J=>exact .inl J
    |1,J=>exact .inl J
    |2,J=>cases J;exact .inr rfl
   rcases key i o J with J | rfl
   .rcases key j N W with W | rfl
    .exact P.sep i j o N xc J W b E xb
    .exact xb
   .exact E
  case hown2=>
   match i,J with
   |0,J=>exact P.own 0 o b J E
   |1,J=>exact P.own 1 o b J E
   |2,J=>cases J;exact E.elim
  case hA2=>
   have F:=A9G T l I;refine Go ?_;refine Bd [3] [] [] (F) (BX rfl) (λu=>(by(repeat refine Vb ?_);exact⟨.inr ⟨rfl,by unfold Qw;rw[u],Pc,0,Ac Zed ZdM⟩⟩)) rfl rfl ZbF ZbD ZbL ZbB ZbH trivial rfl ?_;rintro _ _ ⟨f,H,q,xa,rfl,rfl⟩;refine Kr ?_;have w:=Q f H q;refine Go ?_;refine Dy 6 ?_;refine Dw ?_;refine⟨_,HStep.q rfl (EO (l:=xf f) rfl (Aa rfl) (Aa rfl) (Aa rfl)),?_⟩;refine Dw ?_;refine Xq (EO (l:=l) rfl (Aa rfl) (Aa rfl) (Aa rfl)) ?_;refine⟨_,HStep.q rfl (Zm (b:=xf f) (c:=l) rfl rfl (R f) I.lt),?_⟩;refine Dw ?_;by_cases a:xf f=l
   .rw [Yak a]
    refine Go ?_;have xe:Qw xf l=some f:=by unfold Qw;rw[q];exact Yan a
    have xk:TL xf l=Gb [AQ (Eb f),ex (.int .i64 0)]:=by simp[TL,A5W,A5X,xe]
    refine⟨.inl ⟨rfl,?_⟩⟩;rw[xk];exact A53 rfl rfl rfl rfl (Aa rfl) rfl rfl (Aa rfl) rfl
   .rw [Yad a]
    have xe:Qw xf l=none:=by unfold Qw;rw[q];exact Yai a
    refine Zhd ?_;refine Dq (ao rfl) ?_
    (repeat refine Vb ?_);exact⟨.inr ⟨rfl,xe,f,0,Ac Zed ZdM⟩⟩
  case post2=>
   rintro e a2 w2 ⟨xq,hF,xj⟩;rcases hF.h with⟨rfl,O⟩ | ⟨rfl,hno,g,z,hle⟩
   .obtain ⟨s2,xg,rfl,xh⟩:=xj
    show Leaves _ _ a2.tmps _ a2.defers .returning s2.w;rw[show a2.defers=[⟨.fn (.func 41) #[X 0,X 1],#[]⟩]from xh.df];refine leaves_cons ZbV rfl ((A0H _ _ _).mono ?_);rintro e u' M ⟨⟨v,rfl⟩,rfl,rfl⟩;obtain⟨x,q,A⟩:=O.run _ xg s2 a2.tmps Tryz.f11 rfl xh.hp xh.fr;exact⟨x,q,x,rfl,s2,rfl,xh.le.le λ_ h=>h,A⟩
   .obtain ⟨s2,xg,rfl,xh⟩:=hle _ _ _ _ xj
    have G:=xh.hp 2 _ rfl;have r0:X 0=xg 0:=(G (X 0,.own 0) (by simp[FA])).2;have r1:X 1=xg 1:=(G (X 1,.own 1) (by simp[FA])).2;show Leaves _ _ a2.tmps _ a2.defers (.panicking rCh) s2.w;rw[show a2.defers=[⟨.fn (.func 41) #[X 0,X 1],#[]⟩]from xh.df,r0,r1];refine leaves_cons ZbV rfl ((A3v s2 xg g z xh.ok (λi o J=>?hp3) (λi j o N xc J W=>?sep3)).mono ?_)
    case hp3=>
     match i,J with
     |0,J=>cases J;exact(xh.hp 0 _ rfl).varD rfl
     |1,J=>cases J;exact(xh.hp 1 _ rfl).varD rfl
    case sep3=>
     have key:∀(i:Nat) (o:Ow),(Lj g z)[i]? = some o->(Lj g z++[Ow.pin (FA [] 0 [X 0,X 1])])[i]? = some o:=λi o J=>by
      match i,J with
      |0,J=>exact J
      |1,J=>exact J
     exact xh.sep i j o N xc (key _ _ J) (key _ _ W)
    rintro e u' M ⟨⟨v,rfl⟩,xl,s3,rfl,xd,xu,xo⟩;show Leaves _ _ a2.tmps _ [] (settle u') s3.w;rw[xl];have O:Rets prog ⟨[(2,.ptr 0 0),(3,.ptr 1 0)],Lj Pc 3⟩ #[.cell 2 48,.cell 3 49] (Gb [AQ (Eb Pc),ex (.int .i64 3)]):=A53 rfl rfl rfl rfl (Aa rfl) rfl rfl (Aa rfl) rfl
    have xk:TL xf l=Gb [AQ (Eb Pc),ex (.int .i64 3)]:=by
     simp[TL,A5W,A5X,hno]
    obtain⟨x,q,A⟩:=O.run 0 xg s3 a2.tmps Tryz.f11 rfl xo λt V L=>by
     match t,L with
     |2,L=>
      cases L;obtain⟨-,b,q,A⟩:=xh.fr 2 _ rfl;exact⟨YbZ _,b,q,A⟩
     |3,L=>
      cases L;obtain⟨-,b,q,A⟩:=xh.fr 3 _ rfl;exact⟨Ydn (YbZ _),b,q,A⟩
    refine⟨x,q,x,rfl,s3,rfl,xh.le.le2 xd λb E=>?_,by rw[xk];exact A⟩;obtain⟨i,o,J,E⟩:=E
    match i,J with
    |0,J=>exact(xh.own 0 o b J E).elim False.elim id
    |1,J=>exact(xh.own 1 o b J E).elim False.elim id
end
