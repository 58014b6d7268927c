/- Part 3. No condition. -/
import Derived.Deep.Upon
import Derived.Test.YtcikkglcoeedlaaGreatBk2
set_option linter.unusedSimpArgs false
set_option linter.unusedVariables false
set_option maxRecDepth 100000
namespace Go.Proofs.YtcikkglcoeedlaaGreat
variable{ve:AS}{uv:AS->Prop}{g:AV}{vY:Array Oper}{vB:Array Value}{p:Bool}{vp ua:Code}{r vw uq:D}{vP:Func}{s:GS}{vm ul:List (List D)}{uu:List (Nat×List D)}{vv:List (Nat×Nat)}{ub:List (Nat×Operand)}{i ut:List AV}{v vn:List D}{l:List Nat}{H:List Ow}{b k vj:Nat}{uY:Nat->AS->Prop}{vi:Nat->Value}{va:Oper}{x y vS:Operand}{vC:Operand->AV}{vF:Option Tmp}{vs:Ow}{P:Program}{uG uX:ResultVar}{t U:TypeId}{z u:Value}{w:World}
section
open Go.RowKit
def GG(s0:An)(n:Nat)(Q:Exit->AS->Prop):Exit->Act->World->Prop:=λe a w=>∃d,Q e d/\St s0 n d a w
structure AWp(P:Program)(s0:An)(n:Nat)(c:Code)(Q:Exit->AS->Prop)(σ:AS):Prop where
 run:∀a w,St s0 n σ a w->c.wp P (GG s0 n Q) a w
structure AWl(P:Program)(s0:An)(n:Nat)(ops:Array Oper)(Q:Exit->AS->Prop)(l:List Oper)(σ:AS):Prop where
 run:∀a w,St s0 n σ a w->wpList P ops (GG s0 n Q) l a w
def AaH(next:AS->Prop)(Q:Exit->AS->Prop):Exit->AS->Prop
 |.normal,d=>next d
 |e,d=>Q e d
structure AThen(next:AS->Prop)(Q:Exit->AS->Prop)(e:Exit)(σ:AS):Prop where
 run:AaH next Q e σ
def A8t(id:Nat)(Q:Exit->AS->Prop):Exit->AS->Prop
 |.exit j,d=>if j=id then Q .normal d else Q (.exit j) d
 |e,d=>Q e d
structure ABlock(id:Nat)(Q:Exit->AS->Prop)(e:Exit)(σ:AS):Prop where
 run:A8t id Q e σ
section
variable {P:Program} {s0:An} {n:Nat} {Q:Exit->AS->Prop} {σ:AS}
theorem Ai{x y:Code}(h:AWp P s0 n x (AThen (AWp P s0 n y Q) Q) σ):AWp P s0 n (.seq x y) Q σ:=⟨λa w Y=>wp_seq (wp_mono (h.run a w Y) λe X N ⟨j,⟨A⟩,B⟩=>by
 cases e with
 |normal=>exact AWp.run A X N B
 |_=>exact⟨j,A,B⟩)⟩
theorem AWp.block{id:Nat}{c:Code}(h:AWp P s0 n c (ABlock id Q) σ):AWp P s0 n (.block id c) Q σ:=⟨λa w Y=>wp_block (wp_mono (h.run a w Y) λe X N ⟨E,⟨A⟩,B⟩=>by
 cases e with
 |exit j=>
  show if j=id then GG s0 n Q .normal X N else GG s0 n Q (.exit j) X N
  have A:if j=id then Q .normal E else Q (.exit j) E:=A
  split
  .rename_i C;rw[Yan C]at A;exact⟨E,A,B⟩
  .rename_i C;rw[Yai C]at A;exact⟨E,A,B⟩
 |_=>exact⟨E,A,B⟩)⟩
theorem GW(h:Q .normal σ):AWp P s0 n .skip Q σ:=⟨λ_ _ Y=>wp_skip ⟨σ,h,Y⟩⟩
theorem Cg{id:Nat}(h:Q (.exit id) σ):AWp P s0 n (.exit id) Q σ:=⟨λ_ _ Y=>wp_exit ⟨σ,h,Y⟩⟩
theorem BV(h:Q .ret σ):AWp P s0 n .ret Q σ:=⟨λ_ _ Y=>wp_ret ⟨σ,h,Y⟩⟩
theorem St.exD(E:σ.arg x=.d (ex z)){a:Act}(Y:St s0 n σ a w):a.eval x=z:=by
 obtain⟨s,W,rfl,h⟩:=Y;have:=h.arg x;exact ZiR
theorem Pu(I:σ.arg x=.d (ex (.bool true)))(h:AWp P s0 n vp Q σ):AWp P s0 n (.cond x vp ua) Q σ:=⟨λa w Y=>wp_cond_true (Y.exD I) (h.run a w Y)⟩
theorem Pv(I:σ.arg x=.d (ex (.bool false)))(h:AWp P s0 n ua Q σ):AWp P s0 n (.cond x vp ua) Q σ:=⟨λa w Y=>wp_cond_false (Y.exD I) (h.run a w Y)⟩
theorem Jn(I:σ.arg x=.d (ex (.bool p)))(M:p=true)(h:AWp P s0 n vp Q σ):AWp P s0 n (.cond x vp ua) Q σ:=Pu (by rw[I,M]) h
theorem HO(I:σ.arg x=.d (ex (.bool p)))(M:p=false)(h:AWp P s0 n ua Q σ):AWp P s0 n (.cond x vp ua) Q σ:=Pv (by rw[I,M]) h
theorem FK(I:σ.arg x=.d (ex (.bool p)))(M:p=true->AWp P s0 n vp Q σ)(t:p=false->AWp P s0 n ua Q σ):AWp P s0 n (.cond x vp ua) Q σ:=by
 cases p with
 |true=>exact Pu I (M rfl)
 |false=>exact Pv I (t rfl)
def AS.le(x y:AS):Prop:=∀s0 n a w,St s0 n x a w->St s0 n y a w
theorem DT{c:Code}{σ':AS}(J:AS.le σ σ')(h:AWp P s0 n c Q σ'):AWp P s0 n c Q σ:=⟨λa w Y=>h.run a w (J _ _ _ _ Y)⟩
theorem Bj{l:List Oper}{σ':AS}(J:AS.le σ σ')(h:AWl P s0 n vY Q l σ'):AWl P s0 n vY Q l σ:=⟨λa w Y=>h.run a w (J _ _ _ _ Y)⟩
def AaI(I:Nat->AS->Prop)(m:Nat)(Q:Exit->AS->Prop):Exit->AS->Prop
 |.normal,σ=>∃A,A<m/\∃j,I A j/\AS.le σ j
 |e,σ=>Q e σ
structure ALoop(I:Nat->AS->Prop)(m:Nat)(Q:Exit->AS->Prop)(e:Exit)(σ:AS):Prop where
 run:AaI I m Q e σ
theorem AC{c:Code}(I:Nat->AS->Prop){m:Nat}{σ':AS}(J:AS.le σ σ')(B:I m σ')(round:∀m σ,I m σ->AWp P s0 n c (ALoop I m Q) σ):AWp P s0 n (.loop c) Q σ:=by
 refine⟨λa w Y b k h=>?_⟩
 have key:∀(m:Nat) (a:Act) (w:World) (σ:AS),I m σ->St s0 n σ a w->∃e X N,GG s0 n Q e X N/\Arrives P (lone (b.at a (.code c::.inLoop c::k)) h w) b k h e X N:=by
  intro m
  induction m using Nat.strongRecOn with
  |_ m u=>
   intro a w σ i T;obtain⟨e,H,j,⟨R,⟨C⟩,M⟩,Z⟩:=(round m σ i).run a w T b (.inLoop c::k) h
   cases e with
   |normal=>
    obtain⟨G,A,S,L,F⟩:=C;obtain⟨s,r,E,O,d⟩:=u G A H j S L (F _ _ _ _ M);exact⟨s,r,E,O,.of_steps (Steps.trans Z (.one step_inLoop)) d⟩
   |exit id=>exact Zjw
   |goto l=>exact Zjw
   |ret=>exact Zjw
   |panic K=>exact Zjw
   |outgrown=>exact Zjw
 obtain⟨e,X,N,C,Z⟩:=key m a w σ' B (J _ _ _ _ Y);exact⟨e,X,N,C,.of_steps (.one step_loop) Z⟩
end
def VO(k:Option Tmp)(n:Nat):Bool:=match k with | some d=>Nat.blt d n | none=>true
theorem Jw{n:Nat}(h:VO vF n=true):∀d,vF=some d->d<n:=λd e=>by subst e;exact by simpa[VO,Ybm]using h
section
variable {P:Program} {s0:An} {n:Nat} {ops:Array Oper} {Q:Exit->AS->Prop} {rest:List Oper} {o:Oper} {σ:AS}
theorem AWp.region{id:Nat}{l:List Oper}(h:AWl P s0 n l.toArray Q l σ):AWp P s0 n (.region id l.toArray false) Q σ:=⟨λa w Y=>wp_region_lit (h.run a w Y)⟩
theorem AWl.nil(h:Q .normal σ):AWl P s0 n ops Q [] σ:=⟨λ_ _ Y=>⟨σ,h,Y⟩⟩
theorem AWl.step(C:o.guard=none)(h:∀(s:GS) (W:Nat->Value) (a:Act),StI s0 n σ a s W->∀K:Act->World->Prop,(∀j X N,AWl P s0 n ops Q rest j->St s0 n j X N->K X N)->o.wp P a s.w K (GG s0 n Q)):AWl P s0 n ops Q (o::rest) σ:=by
 refine⟨λa w ⟨s,W,d,T⟩=>?_⟩;subst d;exact wpList_plain C λK f=>h s W a T K λj X N A B=>f X N (A.run X N B)
theorem Zv{j:Nat}(E:o.guard=some (j,p))(O:(ops[j]?).bind (·.dst)=some b)(J:Ch σ.fr b=some (.d (ex (.bool p))))(h:∀(s:GS) (W:Nat->Value) (a:Act),StI s0 n σ a s W->∀K:Act->World->Prop,(∀F X N,AWl P s0 n ops Q rest F->St s0 n F X N->K X N)->o.wp P a s.w K (GG s0 n Q))(e:b<n):AWl P s0 n ops Q (o::rest) σ:=by
 refine⟨λa w ⟨s,W,d,T⟩=>?_⟩;subst d;refine wpList_step λK f=>?_;have Z:a.tmps.getD b undef=.bool p:=T.fr b _ J;have G:b<a.tmps.size:=by rw[T.sz];exact e
 have C:a.tmps[b]? = some (.bool p):=by
  rw[Array.getD_eq_getD_getElem?,Array.getElem?_eq_getElem G]at Z;rw[Array.getElem?_eq_getElem G];exact congrArg some Z
 rw[Yan (by simp[Region.wanted,E,yielded,O,C])];exact h s W a T K λF X N A B=>f X N (A.run X N B)
def isB:Value->Bool->Bool
 |.bool c,b=>c==b
 |_,_=>false
theorem A5s(h:isB z p=false):z≠.bool p:=λe=>by
 rw[e]at h;simp[isB]at h
theorem A43{j:Nat}(C:o.guard=some (j,p))(O:(ops[j]?).bind (·.dst)=some b)(J:Ch σ.fr b=some (.d (ex z)))(E:isB z p=false)(A:b<n)(F:VO o.dst n=true)(h:AWl P s0 n ops Q rest (σ.put o.dst (.d (ex undef)))):AWl P s0 n ops Q (o::rest) σ:=by
 refine⟨λa w ⟨s,W,d,T⟩=>?_⟩;subst d;refine wpList_step λK f=>?_;have Z:a.tmps.getD b undef=z:=T.fr b _ J;have G:b<a.tmps.size:=by rw[T.sz];exact A
 have B:a.tmps[b]? = some z:=by
  rw[Array.getD_eq_getD_getElem?,Array.getElem?_eq_getElem G]at Z;rw[Array.getElem?_eq_getElem G];exact congrArg some Z
 have L:z≠.bool p:=A5s E
 rw[Yai (by
  simp only[Region.wanted,C,yielded,O,Yex,B,YcD];split
  .rename_i c I
   cases I;exact λe=>L (by rw[Yag e])
  .simp)]
 exact f _ _ (h.run _ _ ⟨s,W,rfl,T.put (GS.Le.refl s) (Jw F) rfl⟩)
theorem Rv(Y:BN o.op=true)(e:VO o.dst n=true)(l:Quiet P σ.hp o σ.arg g)(h:AWl P s0 n ops Q rest (σ.put o.dst g)):∀(s:GS) (W:Nat->Value) (a:Act),StI s0 n σ a s W->∀K:Act->World->Prop,(∀B A N,AWl P s0 n ops Q rest B->St s0 n B A N->K A N)->o.wp P a s.w K (GG s0 n Q):=
 λs W a T K f=>RegG.opStep_wp Y (λ_ _=>rfl) (l.run 0 s W a.eval T.ok (Yaw _) T.hp λx _=>T.arg x) λv j ⟨J,X⟩=>f _ _ _ h ⟨j,W,rfl,T.put J (Jw e) X⟩
theorem A44(A:o.guard=none)(Y:BN o.op=true)(e:VO o.dst n=true)(l:Quiet P σ.hp o σ.arg g)(h:AWl P s0 n ops Q rest (σ.put o.dst g)):AWl P s0 n ops Q (o::rest) σ:=AWl.step A (Rv Y e l h)
theorem A1u{j:Nat}(A:o.guard=some (j,p))(O:(ops[j]?).bind (·.dst)=some b)(J:Ch σ.fr b=some (.d (ex (.bool p))))(I:b<n)(Y:BN o.op=true)(e:VO o.dst n=true)(l:Quiet P σ.hp o σ.arg g)(h:AWl P s0 n ops Q rest (σ.put o.dst g)):AWl P s0 n ops Q (o::rest) σ:=Zv A O J (Rv Y e l h) I
end
section
variable {s0:An} {n:Nat} {σ:AS} {a:Act} {s:GS} {ρ:Nat->Value}
theorem Cy{i:Nat}{o:Ow}(h:H[i]? = some o):i<H.length:=(Yae.1 h).1
theorem OwR.mono{base m V i:Nat}(h:OwR base m ρ s i vs)(x:m<=V)(R:∀j,j<m->vi j=ρ j)(K:i<m):OwR base V vi s i vs:=by
 cases vs with
 |dead=>trivial
 |var T cells=>
  obtain⟨b,E,A,B,L,S,I,J,g⟩:=h;refine⟨b,E,(R i K).trans A,B,L,S,I,J,λk N C=>?_⟩;obtain⟨u,y,Q,W⟩:=g k N C;exact⟨u,y,Q,W.mono x R⟩
 |row T F M=>
  unfold OwR;rw[R i K];exact h
 |obj O=>
  unfold OwR;rw[R i K];exact h
 |pin l=>exact λp G=>(h p G).mono x R
theorem OwR.keep{base m i:Nat}{K:GS}(h:OwR base m ρ s i vs)(I:GS.Chg s K)(F:∀b,OwB s (ρ i) vs b->K.w.heap[b]? = s.w.heap[b]? /\ ∀k,K.S b k↔s.S b k):OwR base m ρ K i vs:=by
 cases vs with
 |dead=>trivial
 |var T cells=>
  obtain⟨b,J,A,B,L,S,N,R,X⟩:=h;obtain⟨Z,Q⟩:=F b (show DP (ρ i)=some b by rw[A];rfl);refine⟨b,J,A,B,Z.trans L,S,N,λk C=>R k ((Q k).1 C),λk W C=>?_⟩;obtain⟨u,y,c,d⟩:=X k W C;exact⟨u,y,c,d.chg I⟩
 |row T M V=>
  obtain⟨Y,⟨A,B⟩,L,S,N,R⟩:=h;refine⟨Y,⟨A,?_⟩,L,S,λb e k=>((F b e).2 k).trans (N b e k),λk C=>⟨(R k C).1,λj E=>?_⟩⟩
  .rcases B with B | ⟨g,cap,cur,Z,Q,e3,e4⟩
   .exact .inl B
   .exact .inr ⟨g,cap,cur,Z,Q,(F g (show DP (ρ i)=some g by rw[Z];rfl)).1.trans e3,e4⟩
  .obtain ⟨u,y,c,d⟩:=(R k C).2 j E
   exact⟨u,y,c,(DK _ j).st d I⟩
 |obj O=>exact(O.keep h I F).1
 |pin l=>exact λp G=>(h p G).chg I
theorem StI.newG(h:StI s0 n σ a s ρ){E:GS}(J:GS.Le s E)(e:∀d,vF=some d->d<n){v u:Value}{r:AV}{ow:Ow}(X:AVr (σ.hp.length+1) (λi=>if i=σ.hp.length then u else ρ i) E r v)
  (q:OwR 0 (σ.hp.length+1) (λi=>if i=σ.hp.length then u else ρ i) E σ.hp.length ow) (F:∀b,OwB E u ow b->∀i o,σ.hp[i]? = some o->¬OwB s (ρ i) o b) (x:∀b,OwB E u ow b->s0.mine b\/s0.g.w.heap.size<=b) :
  StI s0 n { fr:=(σ.put vF r).fr,hp:=σ.hp++[ow] } (a.put vF v) E (λi=>if i=σ.hp.length then u else ρ i):=by
 have R:∀j,j<σ.hp.length->(if j=σ.hp.length then u else ρ j)=ρ j:=λj C=>Yai ZbD;have O:(σ.hp++[ow]).length=σ.hp.length+1:=by simp
 have key:∀i o,(σ.hp++[ow])[i]? = some o->∀b,OwB E (if i=σ.hp.length then u else ρ i) o b->(i<σ.hp.length/\σ.hp[i]? = some o/\OwB s (ρ i) o b)\/(i=σ.hp.length/\o=ow/\OwB E u ow b):=λi o K b W=>by
  rw[YaQ]at K;split at K
  .rename_i Q
   rw[Yai ZbD]at W;exact .inl ⟨Q,K,OwB.le (h.hp i o K) J W⟩
  .rename_i V
   have:i=σ.hp.length:=by
    have:=Cy K;simp at this;omega
   subst this;simp at K;subst K;rw[Yan rfl]at W;exact .inr ⟨rfl,rfl,W⟩
 refine⟨h.le.trans J,J.ok h.ok,λt N M=>?_,?_,?_,λi o K=>?_,λi j o w S K C b W Y=>?_,λi o b K W=>?_⟩
 .show AVr (σ.hp++[ow]).length _ E N _
  rw[O]
  cases vF with
  |none=>exact((h.fr t N M).chg J.chg).mono (Yec _) R
  |some d=>
   replace M:Ch ((d,r)::σ.fr) t=some N:=M;rw[CY]at M;simp only[Act.put];by_cases Z:d=t
   .rw [Yan Z]at M
    cases M;subst Z;have:d<a.tmps.size:=by rw[h.sz];exact e d rfl
    simp[this];exact X
   .rw [Yai Z]at M
    have:=((h.fr t N M).chg J.chg).mono (Yec _) R;rw[Yay]at this ⊢;rwa [YaP Z]
 .unfold Act.put;split<;>simp[h.sz]
 .unfold Act.put;split<;>simp[h.df]
 .show OwR 0 (σ.hp++[ow]).length _ E i o
  rw[O];rw[YaQ]at K;split at K
  .rename_i Q
   exact((h.hp i o K).le J).mono (Yec _) R Q
  .rename_i V
   have:i=σ.hp.length:=by
    have:=Cy K;simp at this;omega
   subst this;simp at K;subst K;exact q
 .rcases key i o K b W with⟨A,B,L⟩ | ⟨A,B,L⟩<;>rcases key j w C b Y with⟨G,I,g⟩ | ⟨G,I,g⟩
  .exact h.sep i j o w S B I b L g
  .exact F b g i o B L
  .exact F b L j w I g
  .omega
 .rcases key i o K b W with⟨A,B,L⟩ | ⟨A,B,L⟩
  .exact h.own i o b B L
  .exact x b L
theorem StI.new(h:StI s0 n σ a s ρ){j:GS}(J:GS.Le s j){dst:Option Tmp}(e:∀d,dst=some d->d<n){v u:Value}{r:AV}{ow:Ow}(X:AVr (σ.hp.length+1) (λi=>if i=σ.hp.length then u else ρ i) j r v)
  (q:OwR 0 (σ.hp.length+1) (λi=>if i=σ.hp.length then u else ρ i) j σ.hp.length ow) (F:∀b,OwB j u ow b->s.w.heap.size<=b) :
  StI s0 n { fr:=(σ.put dst r).fr,hp:=σ.hp++[ow] } (a.put dst v) j (λi=>if i=σ.hp.length then u else ρ i):=by
 refine h.newG J e X q (λb E i o K M=>?_) λb E=>.inr (Yat h.le.size (F b E));have:=(h.hp i o K).blk_lt0 M;exact absurd (F b E) ZbD
end
section
variable {P:Program} {s0:An} {n:Nat} {ops:Array Oper} {Q:Exit->AS->Prop} {rest:List Oper} {o:Oper} {σ:AS}
theorem Ix(t:TypeId)(v:Value)(w:World):(newVar t v).run P w=.ok ⟨w.heap.size,0,none⟩ (w.alloc (.cells v.cells t)):=rfl
def AS.new(σ:AS)(dst:Option Tmp)(r:AV)(ow:Ow):AS:={ fr:=(σ.put dst r).fr,hp:=σ.hp++[ow] }
def ZB(l:List Value):List AV:=l.map λu=>.d (ex u)
def HP(l:List Value):Bool:=l.all (·.oneCell')
theorem AWl.alloc{T:TypeId}{d:TypeDesc}{m b:Nat}(I:o.op=.alloc T)(E:o.guard=none)(M:Tab P T d m b z)(L:T≠335)(A:HP z.cells.toList=true)(e:VO o.dst n=true)(h:AWl P s0 n ops Q rest (σ.new o.dst (.ptr σ.hp.length 0) (.var T (ZB z.cells.toList)))):AWl P s0 n ops Q (o::rest) σ:=by
 refine AWl.step E λs W a G K f=>?_
 have p:(execOp a.eval o).run P s.w=.ok (.value (.pointer (some ⟨s.w.heap.size,0,none⟩))) (s.w.alloc (.cells z.cells T)):=by
  simp[execOp,I,Instr.alloc,M.run_zero,Ix]
 unfold Oper.wp;rw[p];refine f _ _ _ h ⟨s.mk' z.cells T 0,_,rfl,G.new (s.le_mk' z.cells T 0 L) (Jw e) (u:=.pointer (some ⟨s.w.heap.size,0,none⟩)) ⟨by omega,s.w.heap.size,by simp,rfl⟩ ?_ λb F=>by cases F;exact Yah _⟩;refine⟨s.w.heap.size,z.cells,by simp,Yaw _,heap_alloc_new s.w _,by simp[ZB],L,λk C=>absurd (G.ok.lt _ _ C) (Ycf _),λk J C=>?_⟩;unfold ZB at C;rw[Yax]at C
 cases B:z.cells.toList[k]? with
 |none=>rw[B]at C;cases C
 |some u=>
  rw[B]at C;cases C;exact⟨u,by simpa using B,Yaj.1 A u (YaE B),rfl⟩
theorem AWl.box(O:o.op=.box t x)(M:o.guard=none)(E:σ.arg x=.d (AP v))(V:t≠335)(e:VO o.dst n=true)(h:AWl P s0 n ops Q rest (σ.new o.dst (.ptr σ.hp.length 0) (.var t (v.map .d)))):AWl P s0 n ops Q (o::rest) σ:=by
 refine AWl.step M λs W a T K f=>?_;have A:=T.arg x;rw[E]at A;obtain⟨G,Z,B,L⟩:=A
 have p:(execOp a.eval o).run P s.w=.ok (.value (.pointer (some ⟨s.w.heap.size,0,none⟩))) (s.w.alloc (.cells G t)):=by
  simp only[execOp,O,Z,Instr.box,Sem.run_bind,Ix,Result.andThen_ok,Sem.run_pure];rfl
 unfold Oper.wp;rw[p];have i:=s.le_mk' G t 0 V;refine f _ _ _ h ⟨s.mk' G t 0,_,rfl,T.new i (Jw e) (u:=.pointer (some ⟨s.w.heap.size,0,none⟩)) ⟨by omega,s.w.heap.size,by simp,rfl⟩ ?_ λb F=>by cases F;exact Yah _⟩;refine⟨s.w.heap.size,G,by simp,Yaw _,heap_alloc_new s.w _,by simp[B],V,λk C=>absurd (T.ok.lt _ _ C) (Ycf _),λk R C=>?_⟩;rw[Yax]at C
 cases J:v[k]? with
 |none=>rw[J]at C;cases C
 |some x=>
  rw[J]at C;cases C;have X:k<v.length:=(Yae.1 J).1;obtain⟨u,S,I,N⟩:=L k X;refine⟨u,S,I,?_⟩;have:DK v k=x:=by simp[DK,J]
  rw[this]at N;exact x.st N i.chg
theorem A6J{u:Value}(G:o.op=.box t x)(B:o.guard=none)(E:σ.arg x=.d (ex u))(A:u.oneCell'=true)(J:t≠335)(e:VO o.dst n=true)(h:AWl P s0 n ops Q rest (σ.new o.dst (.ptr σ.hp.length 0) (.var t [.d (ex u)]))):AWl P s0 n ops Q (o::rest) σ:=by
 refine AWl.step B λs W a T K f=>?_;have Z:a.eval x=u:=St.exD E ⟨s,W,rfl,T⟩;have l:u.cells=#[u]:=by cases u<;>first | rfl | cases A
 have p:(execOp a.eval o).run P s.w=.ok (.value (.pointer (some ⟨s.w.heap.size,0,none⟩))) (s.w.alloc (.cells #[u] t)):=by
  simp only[execOp,G,Z,Instr.box,Sem.run_bind,Ix,Result.andThen_ok,Sem.run_pure,l]
 unfold Oper.wp;rw[p];refine f _ _ _ h ⟨s.mk' #[u] t 0,_,rfl,T.new (s.le_mk' #[u] t 0 J) (Jw e) (u:=.pointer (some ⟨s.w.heap.size,0,none⟩)) ⟨by omega,s.w.heap.size,by simp,rfl⟩ ?_ λb F=>by cases F;exact Yah _⟩;refine⟨s.w.heap.size,#[u],by simp,Yaw _,heap_alloc_new s.w _,by simp,J,λk C=>absurd (T.ok.lt _ _ C) (Ycf _),λk I C=>?_⟩
 cases k with
 |zero=>cases C;exact⟨u,by simp,A,rfl⟩
 |succ k=>cases C
end
def Ow.mapA(f:AV->AV):Ow->Ow
 |.var T cells=>.var T (cells.map f)
 |.pin l=>.pin (l.map λp=>(p.1,f p.2))
 |o=>o
theorem A6p{f:AV->AV}{b:Nat}:OwB s z (vs.mapA f) b↔OwB s z vs b:=by cases vs<;>exact YdO
theorem XP(f:AV->AV):∀(l:List (Nat×AV)) (t:Nat),Ch (l.map λp=>(p.1,f p.2)) t=(Ch l t).map f
 |[],t=>rfl
 |p::r,t=>by
  rw[Ybf];obtain⟨a,I⟩:=p;rw[CY,CY,XP f r t];split<;>rfl
section
variable {s0:An} {n:Nat} {σ:AS} {a:Act} {s:GS} {ρ:Nat->Value}
theorem StI.upd(h:StI s0 n σ a s ρ){s':GS}(xb:GS.LeX s0.mine s0.g s')(m:s'.Ok)(I:GS.Chg s s'){id:Nat}{o o':Ow}{ρ':Nat->Value}{f:AV->AV}(K:σ.hp[id]? = some o)
  (xg:∀b,b<s.w.heap.size->¬OwB s (ρ id) o b->s'.w.heap[b]? = s.w.heap[b]? /\ ∀k,s'.S b k↔s.S b k) (xc:∀j,j≠id->ρ' j=ρ j)
  (xi:OwR 0 σ.hp.length ρ' s' id o') (xm:∀b,OwB s' (ρ' id) o' b->OwB s (ρ id) o b\/s.w.heap.size<=b) (Y:∀r v,AVr σ.hp.length ρ s r v->AVr σ.hp.length ρ' s' (f r) v) :
  StI s0 n { fr:=σ.fr.map λp=>(p.1,f p.2),hp:=(σ.hp.map (Ow.mapA f)).set id o' } a s' ρ':=by
 have z:((σ.hp.map (Ow.mapA f)).set id o').length=σ.hp.length:=by simp
 have xe:∀i x,((σ.hp.map (Ow.mapA f)).set id o')[i]? = some x->(i=id/\x=o')\/(i≠id/\∃y,σ.hp[i]? = some y/\x=y.mapA f):=λi x E=>by
  rw[YbZ]at E;split at E
  .rename_i e
   split at E
   .cases E;exact .inl ⟨e.symm,rfl⟩
   .cases E
  .rename_i e
   rw[Yax]at E
   cases N:σ.hp[i]? with
   |none=>rw[N]at E;cases E
   |some y=>rw[N]at E;cases E;exact .inr ⟨λe'=>e e'.symm,y,rfl,rfl⟩
 have xo:∀i y,i≠id->σ.hp[i]? = some y->∀b,OwB s (ρ i) y b->b<s.w.heap.size/\¬OwB s (ρ id) o b:=λi y U N b F=>⟨(h.hp i y N).blk_lt0 F,h.sep i id y o U N K b F⟩;have c:∀i y,i≠id->σ.hp[i]? = some y->∀b,OwB s (ρ i) y b->s'.w.heap[b]? = s.w.heap[b]? /\ ∀k,s'.S b k↔s.S b k:=λi y U N b F=>xg b (xo i y U N b F).1 (xo i y U N b F).2;have xk:∀i y,i≠id->σ.hp[i]? = some y->∀b,OwB s' (ρ' i) (y.mapA f) b->OwB s (ρ i) y b:=λi y U N b F=>OwB.keep (h.hp i y N) I (c i y U N) (by rw[<-xc i U];exact A6p.1 F);refine⟨xb,m,λt r M=>?_,h.sz,h.df,λi x E=>?_,λi j x y xd E N b xj xf=>?_,λi x b E F=>?_⟩
 .show AVr ((σ.hp.map (Ow.mapA f)).set id o').length ρ' s' r _
  rw[z];rw[XP]at M
  cases J:Ch σ.fr t with
  |none=>rw[J]at M;cases M
  |some xn=>
   rw[J]at M;cases M;exact Y _ _ (h.fr t xn J)
 .show OwR 0 ((σ.hp.map (Ow.mapA f)).set id o').length ρ' s' i x
  rw[z];rcases xe i x E with⟨rfl,rfl⟩ | ⟨U,y,N,rfl⟩
  .exact xi
  .have xl:=h.hp i y N
   cases y with
   |dead=>trivial
   |var T cells=>
    obtain⟨b,Q,A,B,L,S,W,d,w⟩:=xl;obtain⟨P,e4⟩:=c i _ U N b (show DP (ρ i)=some b by rw[A];rfl);refine⟨b,Q,(xc i U).trans A,B,P.trans L,by simpa using S,W,λk C=>d k ((e4 k).1 C),λk r C=>?_⟩;rw[Yax]at C
    cases xh:cells[k]? with
    |none=>rw[xh]at C;cases C
    |some xn=>
     rw[xh]at C;cases C;obtain⟨u,H,h9,xa⟩:=w k xn xh;exact⟨u,H,h9,Y _ _ xa⟩
   |row T R g=>
    have:=xl.keep I (c i _ U N);unfold OwR at this;show OwR 0 σ.hp.length ρ' s' i (.row T R g);unfold OwR;rw[xc i U];exact this
   |obj O=>
    have:=xl.keep I (c i _ U N);show O.rel s' (ρ' i);rw[xc i U];exact this
   |pin l=>
    intro p G;obtain⟨q,V,rfl⟩:=YaA.1 G;exact Y _ _ (xl q V)
 .rcases xe i x E with⟨rfl,rfl⟩ | ⟨U,x0,hx0,rfl⟩<;>rcases xe j y N with⟨rfl,rfl⟩ | ⟨hne',y0,hy0,rfl⟩
  .exact xd rfl
  .obtain ⟨Z,X⟩:=xo j _ hne' hy0 b (xk j _ hne' hy0 b xf)
   rcases xm b xj with A | A
   .exact X A
   .omega
  .obtain ⟨Z,X⟩:=xo i _ U hx0 b (xk i _ U hx0 b xj)
   rcases xm b xf with A | A
   .exact X A
   .omega
  .exact h.sep i j x0 y0 xd hx0 hy0 b (xk i _ U hx0 b xj) (xk j _ hne' hy0 b xf)
 .rcases xe i x E with⟨rfl,rfl⟩ | ⟨U,x0,hx0,rfl⟩
  .rcases xm b F with A | A
   .exact h.own _ o b K A
   .exact .inr (Yat h.le.size A)
  .exact h.own i x0 b hx0 (xk i _ U hx0 b F)
end
theorem RJ(l:List (Nat×AV)):(l.map λp=>(p.1,(λx=>x) p.2))=l:=by simp
theorem LO:∀l:List Ow,l.map (Ow.mapA λx=>x)=l
 |[]=>rfl
 |o::l=>by rw[Ybf,LO l];cases o<;>simp[Ow.mapA]
def One(G:List Ow)(I:AV):Prop:=∀base W s v,HpOk base W s G->AVr G.length W s I v->v.oneCell'=true
theorem CU(h:z.oneCell'=true):One H (.d (ex z)):=λ_ _ _ v _ r=>by have:v=z:=r;rw[this];exact h
theorem CX{T k:Nat}:One H (.d (slD T k vm)):=λ_ _ _ v _ ⟨A,c,r,_⟩=>by rw[r];rfl
theorem One.own{hp:List Ow}{i T sz:Nat}(h:hp[i]? = some (.row T sz vm)):One hp (.own i):=λbase W s v C ⟨_,r⟩=>by
 obtain⟨A,⟨_,B⟩,_⟩:=C i _ h;rcases B with⟨Z,_⟩ | ⟨g,cap,cur,Z,_⟩
 .rw [r,Z];rfl
 .rw [r,Z];rfl
theorem A5Z{p:Addr}{b:Nat}(h:Ty (w.setCell p z) b t):Ty w b t:=by
 obtain⟨A,S,h⟩:=h;by_cases F:b=p.block
 .simp only[World.setCell,YdH,F,if_true]at h
  cases q:w.heap[p.block]? with
  |none=>rw[q]at h;cases h
  |some o=>
   rw[q]at h
   cases o with
   |cells c e f=>
    simp at h;exact⟨c,f,by rw[F,q];rw[h.2.1]⟩
   |_=>simp at h
 .rw [Below.heap_setCell _ _ _ _ F]at h
  exact⟨A,S,h⟩
theorem MV{s s':GS}(h:s.Ok)(r:∀b k,s'.S b k->s.S b k)(t:s.w.heap.size<=s'.w.heap.size)(m:∀b k,s.S b k->s'.S b k)(M:∀b,Ty s'.w b 335->Ty s.w b 335):s'.Ok:=
 ⟨λb k F=>Yaq (h.lt b k (r b k F)) t,λb k F=>m b k (h.safe b k (M b F))⟩
section
variable {P:Program} {s0:An} {n:Nat} {ops:Array Oper} {Q:Exit->AS->Prop} {rest:List Oper} {o:Oper} {σ:AS}
theorem SW{d:TypeDesc}{b id off:Nat}(Y:o.op=.store t x y)(R:o.guard=none)(xm:o.dst=none)(E:σ.arg x=.ptr id off)(O:σ.arg y=g)(j:σ.hp[id]? = some (.var U i))(M:Tab P t d 1 b z)(A:One σ.hp g)(xn:off<i.length)(h:AWl P s0 n ops Q rest { fr:=σ.fr,hp:=σ.hp.set id (.var U (i.set off g)) }):AWl P s0 n ops Q (o::rest) σ:=by
 refine AWl.step R λs W a T K H=>?_;have xl:=T.arg x;have xj:=T.arg y;rw[E]at xl;rw[O]at xj;obtain⟨xc,G,xo,Z⟩:=xl;obtain⟨g',J,B,L,S,N,V,f,l⟩:=T.hp id _ j;rw[xo]at B;cases B;have xh:=A _ _ _ _ T.hp xj;have m:s.w.cell? ⟨G,off,none⟩=some (J[off]'(ZbD)):=(Dh S).trans (YaN _);have xe:s.w.frozen? ⟨G,off,none⟩=false:=Blk.frozen S off;have xk:(a.eval y).cells=#[a.eval y]:=by cases r:a.eval y<;>first | rfl | (rw[r]at xh;cases xh)
 have xa:(execOp a.eval o).run P s.w=.ok .skip (s.w.setCell ⟨G,off,none⟩ (a.eval y)):=by
  have p:(store ⟨G,off,none⟩ (a.eval y)).run P s.w=.ok () (s.w.setCell ⟨G,off,none⟩ (a.eval y)):=by
   cases r:a.eval y<;>first | (rw[r]at xh;cases xh;done) | simp[store,Sem.run,m,xe]
  simp[execOp,Y,Z,Instr.storeAt,Instr.sureAddr,storeVar,xk,M.run_size,storeCells,Addr.add_lit,p]
 unfold Oper.wp;rw[xa];have xf:∀b,b≠G->(s.w.setCell ⟨G,off,none⟩ (a.eval y)).heap[b]? = s.w.heap[b]?:=λb F=>Below.heap_setCell _ _ _ _ F;have xg:(s.w.setCell ⟨G,off,none⟩ (a.eval y)).heap[G]? = some (.cells (J.setIfInBounds off (a.eval y)) U (0,0)):=Blk.set S off _;have X:GS.Ok { s with w:=s.w.setCell ⟨G,off,none⟩ (a.eval y) }:=MV T.ok (λ_ _ h=>h) (by show _<=(s.w.setCell _ _).heap.size;simp[World.setCell]) (λ_ _ h=>h) λb F=>A5Z F
 have I : GS.Chg s { s with w := s.w.setCell ⟨G, off, none⟩ (a.eval y) } := ⟨by show _ ≤ (s.w.setCell _ _).heap.size; simp [World.setCell], fun _ _ h => h, fun b c t q F => by
  by_cases e:b=G
  .subst e
   rw[S]at F;cases F;exact⟨_,_,xg,λk C=>absurd C (f k)⟩
  .exact ⟨c,q,(xf b e).trans F,λ_ _=>rfl⟩⟩
 have xi := T.upd (s' := { s with w := s.w.setCell ⟨G, off, none⟩ (a.eval y) }) (ρ' := W) (f := fun x => x) (o' := .var U (i.set off g)) (T.le.turn (T.own id _ G j (show DP (W id) = some G by rw [xo]; rfl)) rfl rfl rfl (fun b _ F => ⟨xf b F, fun _ h => h⟩) I (fun _ _ => rfl) fun _ => X) X I j (fun b _ F => ⟨xf b fun e => F (show DP (W id) = some b by rw [xo, e]; rfl), fun _ => YdO⟩) (fun _ _ => rfl)
  ⟨G, _, xo, L, xg, by simpa using N, V, f, fun k xp C => by
   rw[YbZ]at C;split at C
   .rename_i e
    subst e;obtain rfl:xp=g:=by first | exact(Yag C).symm | (rw[Yan xn]at C;exact(Yag C).symm)
    exact⟨_,by simp[N,xn],xh,xj.chg I⟩
   .rename_i e
    obtain⟨u,w,xb,xd⟩:=l k xp C;exact⟨u,by rw[YaP e];exact w,xb,xd.chg I⟩⟩ (λb F=>.inl F) λg v h=>h.chg I
 rw[RJ,LO]at xi;exact H _ _ _ h (by rw[xm];exact⟨_,W,rfl,xi⟩)
def Kc(cells:List AV)(off:Nat)(R:List AV):List AV:=cells.take off++(R++cells.drop (off+R.length))
theorem ZQ{off:Nat}(h:off+ut.length<=i.length)(k:Nat):(Kc i off ut)[k]? = if off<=k/\k<off+ut.length then ut[k-off]? else i[k]?:=by
 unfold Kc;rw[YaQ];have A:(i.take off).length=off:=Zip
 rw[A];split
 .rename_i B
  rw[Yai ZbD,YaJ,Yan B]
 .rename_i F
  rw[YaQ];split
  .rename_i B
   rw[Yan ZbD]
  .rename_i a
   rw[Yai ZbD,YbO];exact Zhc
theorem SV{d:TypeDesc}{b id off m:Nat}(l:o.op=.store t x y)(Y:o.guard=none)(xs:o.dst=none)(E:σ.arg x=.ptr id off)(O:σ.arg y=.d (AP v))(H:σ.hp[id]? = some (.var U i))(M:Tab P t d m b z)(X:v.length=m)(xu:off+m<=i.length)(h:AWl P s0 n ops Q rest { fr:=σ.fr,hp:=σ.hp.set id (.var U (Kc i off (v.map .d))) }):AWl P s0 n ops Q (o::rest) σ:=by
 refine AWl.step Y λs J a T K hK=>?_;have xr:=T.arg x;have xq:=T.arg y;rw[E]at xr;rw[O]at xq;obtain⟨xf,g,xw,Z⟩:=xr;obtain⟨g',N,B,L,S,R,f,w,h8⟩:=T.hp id _ H;rw[xw]at B;cases B;obtain⟨q,V,xm,xt⟩:=xq
 have xz:∀A∈q.toList,A.oneCell'=true:=λA r=>by
  obtain⟨k,C,rfl⟩:=YcI r;simp at C;obtain⟨u,h9,xc,_⟩:=xt k ZbD;rw[YaN C]at h9;cases h9;simpa using xc
 have xl:q.toList.length=m:=by simp[xm,X]
 have xp:=run_storeCells_at P g off U q.toList 0 N s.w S ZbD xz;simp only[Ybd]at xp;obtain⟨W,hW⟩:∃W,W=s.w.setRow g (N.toList.take off++q.toList++N.toList.drop (off+q.toList.length)).toArray:=⟨_,rfl⟩;rw[<-hW]at xp
 have xd:(execOp a.eval o).run P s.w=.ok .skip W:=by
  simp[execOp,l,Z,V,Instr.storeAt,Instr.sureAddr,storeVar,Value.cells,xm,X,M.run_size,xp]
 unfold Oper.wp;rw[xd];have xj:∀b,b≠g->W.heap[b]? = s.w.heap[b]?:=λb F=>by rw[hW];exact Zjx
 have xk:W.heap[g]? = some (.cells (N.toList.take off++q.toList++N.toList.drop (off+q.toList.length)).toArray U (0,0)):=by rw[hW];exact setRow_heap s.w g N _ U _ S
 have xa:W.heap.size=s.w.heap.size:=by rw[hW];simp[World.setRow]
 have j : GS.Ok { s with w := W } := MV T.ok (fun _ _ h => h) (by show _ ≤ W.heap.size; omega) (fun _ _ h => h) fun b ⟨c, fz, F⟩ => by
  by_cases e:b=g
  .subst e
   have F:W.heap[b]? = _:=F;rw[xk]at F;cases F;exact absurd rfl f
  .exact ⟨c,fz,(xj b e).symm.trans F⟩
 have I : GS.Chg s { s with w := W } := ⟨by show _ ≤ W.heap.size; omega, fun _ _ h => h, fun b c t fz F => by
  by_cases e:b=g
  .subst e
   rw[S]at F;cases F;exact⟨_,_,xk,λk C=>absurd C (w k)⟩
  .exact ⟨c,fz,(xj b e).trans F,λ_ _=>rfl⟩⟩
 have xx:off+(v.map AV.d).length<=i.length:=Zip
 have xo := T.upd (s' := { s with w := W }) (ρ' := J) (f := fun x => x) (o' := .var U (Kc i off (v.map .d))) (T.le.turn (T.own id _ g H (show DP (J id) = some g by rw [xw]; rfl)) (by rw [hW]; rfl) (by rw [hW]; rfl) (by rw [hW]; rfl) (fun b _ F => ⟨xj b F, fun _ h => h⟩) I (fun _ _ => rfl) fun _ => j) j I H (fun b _ F => ⟨xj b fun e => F (show DP (J id) = some b by rw [xw, e]; rfl), fun _ => YdO⟩) (fun _ _ => rfl)
  ⟨g, _, xw, L, xk, by simp [Kc]; omega, f, w, fun k xy C => by
   rw[ZQ xx]at C
   have xh:(N.toList.take off++q.toList++N.toList.drop (off+q.toList.length)).toArray[k]? = if off<=k/\k<off+m then q[k-off]? else N[k]?:=by
    rw[YbE,Yaf,YaQ];have xb:(N.toList.take off).length=off:=Zip
    rw[xb];split
    .rename_i G
     rw[Yai ZbD,YaJ,Yan G];simp
    .rename_i xi
     rw[YaQ];split
     .rename_i G
      rw[Yan ZbD];simp
     .rename_i xA
      rw[Yai ZbD,YbO];simp;exact Zhc
   rw[xh];rw[Yar,X]at C;split at C
   .rename_i xn
    rw[Yan xn];rw[Yax]at C
    cases xv:v[k-off]? with
    |none=>rw[xv]at C;cases C
    |some x=>
     rw[xv]at C;cases C;obtain⟨u,h9,xc,xe⟩:=xt (k-off) ZbD;refine⟨u,h9,xc,?_⟩;have:DK v (k-off)=x:=by simp[DK,xv]
     rw[this]at xe;exact x.st xe I
   .rename_i xn
    rw[Yai xn];obtain⟨u,xc,xe,xg⟩:=h8 k xy C;exact⟨u,xc,xe,xg.chg I⟩⟩ (λb F=>.inl F) λp A h=>h.chg I
 rw[RJ,LO]at xo;exact hK _ _ _ h (by rw[xs];exact⟨_,J,rfl,xo⟩)
end
theorem Ut{s0:An}(xb:GS.LeX s0.mine s0.g s)(S:s.Ok){t ty T N bytes:Nat}{d:TypeDesc}(M:P.underlying t=some (.slice T))(l:Tab P T d N bytes z)(xn:z.cells.size=N)(xp:T≠335)(G:0<N)
  {v:Value} {f:List Value} (xl:s.w.ownsRow 0 T N v k f) (xF:∀b,DP v=some b->s0.mine b\/s0.g.w.heap.size<=b) (p:∀b,DP v=some b->∀A,s.S b A↔A<k*N)
  (b o m c:Nat) (xc:List Value) (J:xc.length=m*N) (x:0<m) (xG:∀j u,xc[j]? = some u->s.w.cell? ⟨b,o+j,none⟩=some u) (B:∀u∈xc,u.oneCell'=true) (xe:(k+m)*bytes<=140737488355328) (xm:k+m<=4611686018427387904) :
  ∃(Y:Value) (L:GS),(Builtin.append_ #[t,t] ty #[v,.slice (some ⟨b,o,none⟩) m c]).run P s.w=.ok Y L.w/\GS.LeX s0.mine s0.g L/\L.Ok/\GS.Chg s L/\L.w.ownsRow 0 T N Y (k+m) (f++xc)/\(∀b,DP Y=some b->∀A,L.S b A↔A<(k+m)*N) /\
   (∀b,b<s.w.heap.size->DP v≠some b->L.w.heap[b]? = s.w.heap[b]? /\ ∀A,L.S b A↔s.S b A)/\(∀b,DP Y=some b->DP v=some b\/s.w.heap.size<=b):=by
 obtain⟨i,K,O,xq,xt⟩:=l.info;subst xq;subst xt;have xA:∀j u,xc[j]? = some u->s.w.cell? ((⟨b,o,none⟩:Addr).add j)=some u:=λj u a=>by rw[Addr.add_lit];exact xG j u a
 have w:(f++xc).length=(k+m)*i.size:=by rw[Yaa,xl.1,J,YbC]
 have fresh:∀(cap:Nat) (arr:Array Value),k+m<=cap->cap<=maxLen->arr.size=cap*i.size->arr.toList.take ((k+m)*i.size)=f++xc->∃L:GS,L.w=s.w.drew.alloc (.cells arr T)/\GS.LeX s0.mine s0.g L/\L.Ok/\GS.Chg s L/\L.w.ownsRow 0 T i.size (.slice (some ⟨s.w.heap.size,0,none⟩) (k+m) cap) (k+m) (f++xc) /\
   (∀A,L.S s.w.heap.size A↔A<(k+m)*i.size)/\(∀b,b<s.w.heap.size->L.w.heap[b]? = s.w.heap[b]? /\ ∀A,L.S b A↔s.S b A):=by
  intro cap arr xk xh xu xD;have V:Ext s.w (s.w.drew.alloc (.cells arr T)):=(Ext.refl _).drew.alloc _;have xi:(s.w.drew.alloc (.cells arr T)).heap[s.w.heap.size]? = some (.cells arr T (0,0)):=heap_alloc_new s.w.drew _;have y:(s.w.drew.alloc (.cells arr T)).heap.size=s.w.heap.size+1:=Yeb ..;have Q:∀A,¬s.S s.w.heap.size A:=λA C=>absurd (S.lt _ _ C) (Ycf _);have xw:∀b A,b<s.w.heap.size->((s.S b A\/(b=s.w.heap.size/\A<(k+m)*i.size))↔s.S b A):=λb A F=>⟨λh=>h.elim id λh=>absurd F ZbD,.inl⟩
  have xd:GS.Ok ⟨λb A=>s.S b A\/(b=s.w.heap.size/\A<(k+m)*i.size),s.tag,s.w.drew.alloc (.cells arr T)⟩:=⟨λb A F=>by
    show b<(s.w.drew.alloc (.cells arr T)).heap.size;rcases F with F | ⟨F,_⟩
    .have:=S.lt _ _ F;omega
    .omega,λb A ⟨I,fz,F⟩=>by
    have F:(s.w.drew.alloc (.cells arr T)).heap[b]? = _:=F;have xo:=Bw F;by_cases e:b=s.w.heap.size
    .subst e
     rw[xi]at F;cases F;exact absurd rfl xp
    .exact .inl (S.safe b A ⟨I,fz,(V.block ZbD).symm.trans F⟩)⟩
  refine⟨⟨λb A=>s.S b A\/(b=s.w.heap.size/\A<(k+m)*i.size),s.tag,s.w.drew.alloc (.cells arr T)⟩,rfl,?_,xd,?_,?_,λA=>⟨λh=>h.elim (λh=>absurd h (Q A)) λh=>h.2,λh=>.inr ⟨rfl,h⟩⟩,λb F=>⟨V.block F,λA=>xw b A F⟩⟩
  .refine xb.trans ⟨V,λ_ _ h=>.inl h,λb A F h=>(xw b A F).1 h,λ_ _=>rfl,λ_=>xd⟩
  .exact ⟨V.size,λ_ _ h=>.inl h,λb I n fz F=>⟨I,fz,(V.block (Bw F)).trans F,λ_ _=>rfl⟩⟩
  .exact ⟨w,.inr ⟨_,cap,arr,rfl,Yaw _,xi,xk,xh,xu,xD⟩⟩
 have xz:k+m<=maxLen:=ZiS
 have xC:∀xr,xr<k+m->∃L:GS,L.w=s.w.drew.alloc (.cells (f.toArray++xc.toArray++Builtin.zeroCells z.cells (grownCap s.w (k+m) xr T-(k+m))) T)/\GS.LeX s0.mine s0.g L/\L.Ok/\GS.Chg s L/\L.w.ownsRow 0 T i.size (.slice (some ⟨s.w.heap.size,0,none⟩) (k+m) (grownCap s.w (k+m) xr T)) (k+m) (f++xc) /\
   (∀A,L.S s.w.heap.size A↔A<(k+m)*i.size)/\(∀b,b<s.w.heap.size->L.w.heap[b]? = s.w.heap[b]? /\ ∀A,L.S b A↔s.S b A):=by
  intro xr q;have xf:=grownCap_ge s.w (k+m) xr T;have xv:grownCap s.w (k+m) xr T<=maxLen:=grownCap_le_maxLen s.w (k+m) xr T xz;refine fresh _ _ xf xv ?_ ?_
  .simp only[Array.size_append,Ydb,size_zeroCells,xn,xl.1,J,<-YbC]
   exact Zhc
  .simp only[Array.toList_append,Yaf]
   rw[<-Yaf,<-w];exact Yen
 rcases xl.2 with⟨rfl,rfl⟩ | ⟨g,cap,xj,rfl,hbg,hg,hnc,xv,hcs,htake⟩
 .have E:f=[]:=YaF (by simpa using xl.1)
  subst E;have X:=run_append_nil (P:=P) s.w t ty T i z M K O ⟨b,o,none⟩ m c xc J xA x ZbD (by have F:=xe;simp only[YaH]at F;omega);obtain⟨L,Z,R,H,e4,e5,e6,e7⟩:=xC 0 ZbD;simp only[YaH,YcH,Array.empty_append]at Z e5 e6 ⊢;exact ZgL
 .by_cases xB:k+m<=cap
  .have xE:k*i.size+xc.length<=xj.size:=by rw [J, hcs, <-YbC];exact YaB _ xB
   have X:=run_append_room (P:=P) s.w t ty T i M K g k cap xj hg ⟨b,o,none⟩ m c xc J xA B xB xE;obtain⟨W,U⟩:∃W,W=s.w.setRow g (xj.toList.take (k*i.size)++xc++xj.toList.drop (k*i.size+xc.length)).toArray:=⟨_,rfl⟩;rw[<-U]at X;have xg:∀b,b≠g->W.heap[b]? = s.w.heap[b]?:=λb F=>by rw[U];exact Zjx
   have xi:W.heap[g]? = some (.cells (xj.toList.take (k*i.size)++xc++xj.toList.drop (k*i.size+xc.length)).toArray T (0,0)):=by rw[U];exact setRow_heap s.w g xj _ T _ hg
   have y:W.heap.size=s.w.heap.size:=by rw[U];simp[World.setRow]
   have xx:=Bw hg;have xI:∀A,s.S g A↔A<k*i.size:=p g rfl;have xw:∀b A,b≠g->((s.S b A\/(b=g/\A<(k+m)*i.size))↔s.S b A):=λb A F=>⟨λh=>h.elim id λh=>absurd h.1 F,.inl⟩
   have xd:GS.Ok ⟨λb A=>s.S b A\/(b=g/\A<(k+m)*i.size),s.tag,W⟩:=⟨λb A F=>by
     show b<W.heap.size;rcases F with F | ⟨F,_⟩
     .have:=S.lt _ _ F;omega
     .omega,λb A ⟨I,fz,F⟩=>by
     have F:W.heap[b]? = _:=F;by_cases e:b=g
     .subst e
      rw[xi]at F;cases F;exact absurd rfl xp
     .exact .inl (S.safe b A ⟨I,fz,(xg b e).symm.trans F⟩)⟩
   have xy:∀A,A<k*i.size->(xj.toList.take (k*i.size)++xc++xj.toList.drop (k*i.size+xc.length)).toArray[A]? = xj[A]?:=λA C=>by
    rw[YbE,Yaf,Yau Zip,YaJ,Yan C];simp
   have xJ : GS.Chg s ⟨fun b A => s.S b A ∨ (b = g ∧ A < (k + m) * i.size), s.tag, W⟩ := ⟨by show _ ≤ W.heap.size; omega, fun _ _ h => .inl h, fun b I n fz F => by
    by_cases e:b=g
    .subst e
     rw[hg]at F;cases F;exact⟨_,_,xi,λA C=>xy A ((xI A).1 C)⟩
    .exact ⟨I,fz,(xg b e).trans F,λ_ _=>rfl⟩⟩
   refine⟨_,⟨λb A=>s.S b A\/(b=g/\A<(k+m)*i.size),s.tag,W⟩,X,xb.turn (xF g rfl) (by show W.os=_;rw[U];rfl) (by show W.tape=_;rw[U];rfl) (by show W.output=_;rw[U];rfl) (λb _ F=>⟨xg b F,λA h=>(xw b A F).1 h⟩) xJ (λ_ _=>rfl) λ_=>xd,xd,xJ,?_,?_,λb F r=>?_,λb F=>.inl F⟩
   .refine ⟨w,.inr ⟨g,cap,_,rfl,hbg,xi,xB,xv,?_,?_⟩⟩
    .simp only[Ydb,Yaa,YaO,YbQ,Yed]
     omega
    .rw [htake,<-w]
     exact Yen
   .intro b F A
    cases F;constructor
    .rintro (h | h)
     .have:=(xI A).1 h
      have:k*i.size<=(k+m)*i.size:=YaB _ ZbD;omega
     .exact h.2
    .intro h
     exact .inr ⟨rfl,h⟩
   .have xa:b≠g:=λe=>r (by rw [e]; rfl)
    exact⟨xg b xa,λA=>xw b A xa⟩
  .have xH:∀j u,f[j]? = some u->s.w.cell? ((⟨g,0,none⟩:Addr).add j)=some u:=xl.cells (g:=g) rfl
   have X:=run_append_grow (P:=P) s.w t ty T i z M K O ⟨g,0,none⟩ k cap f xl.1 xH ⟨b,o,none⟩ m c xc J xA ZbD ZbD (growslice_fits ZbD xe);obtain⟨L,Z,R,H,e4,e5,e6,e7⟩:=xC cap ZbD;exact ZgL
def down(id:Nat)(x:D):AV->AV
 |.own j=>bif Nat.beq j id then .d x else .own j
 |.fn f Y=>bif Y.contains id then .d CD else .fn f Y
 |av=>av
theorem KL(l X:List (List D))(k:Nat):(l++X).getD k []=if k<l.length then l.getD k []else X.getD (k-l.length) []:=by
 rw[Yab,YaQ];split<;>simp[Yab]
section
variable {P:Program} {s0:An} {n:Nat} {ops:Array Oper} {Q:Exit->AS->Prop} {rest:List Oper} {o:Oper} {σ:AS}
def AS.appd(σ:AS)(A:Option Tmp)(id T k:Nat)(C X:List (List D)):AS:=
 AS.put { fr:=σ.fr.map λp=>(p.1,down id (slD T k C) p.2),hp:=(σ.hp.map (Ow.mapA (down id (slD T k C)))).set id (.row T k (C++X)) } A (.own id)
theorem Qu{T F:Nat}{b o:Nat}(h:∀k,k<vm.length->(vm.getD k []).length=F/\Lies s b (o+k*F) T (vm.getD k [])):∃N:List Value,N.length=vm.length*F/\(∀j u,N[j]? = some u->s.w.cell? ⟨b,o+j,none⟩=some u)/\(∀u∈N,u.oneCell'=true) /\
  ∀k j,k<vm.length->j<F->∃u,N[k*F+j]? = some u/\u.oneCell'=true/\(DK (vm.getD k []) j).rel s u:=by
 have key:∀i,∃u,i<vm.length*F->s.w.cell? ⟨b,o+i,none⟩=some u/\u.oneCell'=true/\(DK (vm.getD (i/F) []) (i%F)).rel s u:=λi=>by
  by_cases K:i<vm.length*F
  .have M:0<F:=Ybz λe=>by rw [e] at K;simp at K
   have C:i/F<vm.length:=(YdI M).2 K;have a:i%F<F:=YaT _ M;obtain⟨A,B⟩:=h (i/F) C;obtain⟨u,L,S,G⟩:=B.cell (k:=i%F) ZbD;refine⟨u,λ_=>⟨?_,S,G⟩⟩;rw[<-L];have:=YcV i F;rw[YaM]at this;rw[YbM,this]
  .exact ⟨undef,λh=>absurd h K⟩
 obtain⟨f,t⟩:∃f:Nat->Value,∀i,i<vm.length*F->s.w.cell? ⟨b,o+i,none⟩=some (f i)/\(f i).oneCell'=true/\(DK (vm.getD (i/F) []) (i%F)).rel s (f i):=⟨λi=>(key i).choose,λi K=>(key i).choose_spec K⟩;refine⟨(List.range (vm.length*F)).map f,by simp,λj u a=>?_,λu J=>?_,λk j C a=>?_⟩
 .rw [Yax]at a
  by_cases O:j<vm.length*F
  .rw [Ydn O]at a
   cases a;exact(t j O).1
  .rw [YbF (by simp; omega)] at a
   cases a
 .obtain ⟨i,K,rfl⟩:=YaA.1 J
  exact(t i (YaZ.1 K)).2.1
 .have E:k*F+j<vm.length*F:=by
   have:(k+1)*F<=vm.length*F:=YaB F C;exact Zhd
  refine⟨f (k*F+j),by rw[Yax,Ydn E];rfl,(t _ E).2.1,?_⟩;have:=(t _ E).2.2
  have Z:(k*F+j)/F=k:=by
   rw[YaM,YcN ZbD,YbI a];omega
  have I:(k*F+j)%F=j:=by
   rw[YaM,Ydt,YaS a]
  rwa [Z,I]at this
theorem SX{t T T2 sz bytes id m b:Nat}{d:TypeDesc}(xb:o.op=.call { callee:=.builtin .append,args:=#[x,y],argTypes:=#[t,t] })(hg:o.guard=none)(G:σ.arg x=.own id)(V:HW σ.hp (σ.arg y)=some (slD T2 sz ul))(hh:σ.hp[id]? = some (.row T sz vm))(R:Tab P t (.slice T) m b u)(hT:Tab P T d sz bytes z)(xn:z.cells.size=sz)(w:VO o.dst n=true)(xj:(vm.length+ul.length)*bytes<=140737488355328)(xm:vm.length+ul.length<=4611686018427387904)(h:AWl P s0 n ops Q rest (σ.appd o.dst id T sz vm ul)):AWl P s0 n ops Q (o::rest) σ:=by
 refine AWl.step hg λs Y a xa K hK=>?_;have xp:=xa.arg x;rw[G]at xp;obtain⟨xg,l⟩:=xp;obtain⟨xs,E,M,X,h5,h6⟩:=xa.hp id _ hh;have xr:(slD T sz vm).rel s (Y id):=Ew (av:=.own id) xa.hp ⟨xg,rfl⟩ (by simp[HW,hh]);obtain⟨A,c,e2,h7,h8,h9⟩:=Ew xa.hp (xa.arg y) V
 have xx:∀(v':Value) (U:GS) (xv:List Value),(execOp a.eval o).run P s.w=.ok (.value v') U.w->GS.LeX s0.mine s0.g U->U.Ok->GS.Chg s U->U.w.ownsRow 0 T sz v' (vm.length+ul.length) xv->(∀b,DP v'=some b->∀k,U.S b k↔k<(vm.length+ul.length)*sz) ->
   (∀b,b<s.w.heap.size->DP (Y id)≠some b->U.w.heap[b]? = s.w.heap[b]? /\ ∀k,U.S b k↔s.S b k)->(∀b,DP v'=some b->DP (Y id)=some b\/s.w.heap.size<=b) ->
   (∀k,k<(vm++ul).length->((vm++ul).getD k []).length=sz/\∀j,j<sz->∃O,xv[k*sz+j]? = some O/\O.oneCell'=true/\(DK ((vm++ul).getD k []) j).rel U O)->o.wp P a s.w K (GG s0 n Q):=by
  intro v' U xv xe q1 q2 q3 q4 q5 q6 q7 q8;unfold Oper.wp;rw[xe];have J:(vm++ul).length=vm.length+ul.length:=Yaa
  have xl:=xa.upd (s':=U) (o':=.row T sz (vm++ul)) (ρ':=λi=>if i=id then v' else Y i) (f:=down id (slD T sz vm)) q1 q2 q3 hh q6 (λj q=>Yai q)
   ⟨xv, by simp only [Yan]; rw [J]; exact q4, M, X, fun b I k => by simp only [Yan] at I; rw [J]; exact q5 b I k, q8⟩ (fun b I => by replace I : DP (if id = id then v' else Y id) = some b := I; rw [Yan rfl] at I; exact q7 b I) fun av v xh => by
    cases av with
    |d x=>exact x.st xh q3
    |ptr i off=>
     obtain⟨p1,bb,p2,p3⟩:=xh;refine⟨p1,bb,?_,p3⟩;show(if i=id then v' else Y i)=_;by_cases e:i=id
     .exfalso
      subst e;rcases E.2 with⟨w1,_⟩ | ⟨g,cap,cur,w1,_⟩<;>rw[w1]at p2<;>cases p2
     .rw [Yai e];exact p2
    |own j=>
     obtain⟨p1,p2⟩:=xh;show AVr σ.hp.length _ U (bif Nat.beq j id then .d (slD T sz vm)else .own j) v
     cases I:Nat.beq j id with
     |true=>
      have e:j=id:=Yao I;subst e;rw[p2];exact(slD T sz vm).st xr q3
     |false=>
      have e:j≠id:=YaI I;exact⟨p1,p2.trans (Yai e).symm⟩
    |fn f xd=>
     obtain⟨p1,p2⟩:=xh;show AVr σ.hp.length _ U (bif xd.contains id then .d CD else .fn f xd) v
     cases I:xd.contains id with
     |true=>trivial
     |false=>
      have H:id∉xd:=λh=>by rw[YbG.2 h]at I;cases I
      exact⟨p1,by rw[p2,YaX λi L=>(Yai λe=>H (by rw[<-e];exact L):(if i=id then v' else Y i)=Y i)]⟩
  have xi:=xl.put (GS.Le.refl U) (Jw w) (v:=v') (r:=.own id) ⟨by simpa using xg,by simp⟩;exact hK _ _ _ h ⟨U,_,rfl,xi⟩
 have xu:∀v' S,(Builtin.append_ #[t,t] o.type #[Y id,a.eval y]).run P s.w=.ok v' S->(execOp a.eval o).run P s.w=.ok (.value v') S:=λv' S Z=>by
  simp only[execOp,xb,resolve,invoke,builtin,Sem.run_bind,Sem.run_pure,Result.andThen_ok,YcJ,Ybf,Ycs,l,Z]
 rcases Yaz ul.length with r | r
 .obtain rfl:ul=[]:=YaF r
  obtain⟨i,L,hz,xo,xq⟩:=hT.info
  have xy:∃B N C,Y id=.slice B N C/\N<=C:=Zav
  obtain⟨B,N,C,w1,w2⟩:=xy
  have Z:(Builtin.append_ #[t,t] o.type #[Y id,a.eval y]).run P s.w=.ok (Y id) s.w:=by
   rw[e2,w1]
   cases A with
   |none=>exact run_append_nothing s.w _ _ _ _ i R.und L _ _ _ w2 _ (Src.ofNil s.w R.und c)
   |some ad=>exact run_append_nothing s.w _ _ _ _ i R.und L _ _ _ w2 _ (Src.ofSlice s.w R.und _ _ _ [] ZbS ZbS ZbS)
  refine xx (Y id) s xs (xu _ _ Z) xa.le xa.ok (GS.Chg.refl s) Zed (λb I k=>by simpa using h5 b I k) (λb I _=>⟨rfl,λ_=>YdO⟩) (λb I=>.inl I) λk F=>?_;rw[YbD]at F ⊢;exact⟨(h6 k F).1,(h6 k F).2⟩
 .obtain ⟨g,p,rfl,xc⟩:=h9 r
  obtain⟨xf,n1,n2,n3,n4⟩:=Qu xc;obtain⟨v',U,Z,q1,q2,q3,q4,q5,q6,q7⟩:=Ut (P:=P) (ty:=o.type) xa.le xa.ok R.und hT xn M X E (λb I=>xa.own id _ b hh I) h5 g p ul.length c xf n1 r n2 n3 xj xm;refine xx v' U (xs++xf) (xu _ _ (by rw[e2];exact Z)) q1 q2 q3 q4 q5 q6 q7 λk F=>?_;rw[Yaa]at F;rw[KL];have xt:xs.length=vm.length*sz:=E.1;split
  .rename_i W
   refine⟨(h6 k W).1,λj q=>?_⟩;obtain⟨O,r1,xw,r3⟩:=(h6 k W).2 j q;refine⟨O,?_,xw,(DK _ j).st r3 q3⟩;rw[Yau]
   .exact r1
   .rw [xt]
    have:(k+1)*sz<=vm.length*sz:=YaB sz W;exact Zhd
  .rename_i xk
   refine⟨(xc (k-vm.length) ZbD).1,λj q=>?_⟩;obtain⟨O,r1,xw,r3⟩:=n4 (k-vm.length) j ZbD q;refine⟨O,?_,xw,(DK _ j).st r3 q3⟩;have e3:k*sz=vm.length*sz+(k-vm.length)*sz:=Zir
   rw[Yal ZbD,xt,<-r1];exact Zhc
theorem Vr{ρ:Nat->Value}{a:Act}{T sz cap:Nat}{arr:Array Value}(hst:StI s0 n σ a s ρ)(A:T≠335)(c:0<sz)(I:cap<=maxLen)(Z:arr.size=cap*sz){dst:Option Tmp}(e:VO dst n=true) :
  St s0 n (σ.new dst (.own σ.hp.length) (.row T sz [])) (a.put dst (.slice (some ⟨s.w.heap.size,0,none⟩) 0 cap)) (s.w.alloc (.cells arr T)):=
 ⟨s.mk' arr T 0, _, rfl, hst.new (s.le_mk' arr T 0 A) (Jw e) (u := .slice (some ⟨s.w.heap.size, 0, none⟩) 0 cap) ⟨by omega, by simp⟩
  ⟨[], ⟨by simp, .inr ⟨s.w.heap.size, cap, arr, by simp, Yaw _, heap_alloc_new s.w _, Yaw _, I, Z, by simp⟩⟩, A, c, fun b F k => by
   simp only[Yan]at F;cases F;exact⟨λC=>absurd (hst.ok.lt _ _ C) (Ycf _),λC=>by simp at C⟩,λk C=>by simp at C⟩ λb F=>by cases F;exact Yah _⟩
theorem A1v{t T m b k bytes:Nat}{d:TypeDesc}(G:o.op=.buildSlice t 0 #[])(A:o.guard=none)(M:Tab P t (.slice T) m b u)(C:Tab P T d k bytes z)(y:T≠335)(c:0<k)(e:VO o.dst n=true)(h:AWl P s0 n ops Q rest (σ.new o.dst (.own σ.hp.length) (.row T k []))):AWl P s0 n ops Q (o::rest) σ:=by
 refine AWl.step A λs W a B K E=>?_
 have p:(execOp a.eval o).run P s.w=.ok (.value (.slice (some ⟨s.w.heap.size,0,none⟩) 0 0)) (s.w.alloc (.cells #[] T)):=by
  have f:∀arr,(newRow T arr).run P s.w=.ok ⟨s.w.heap.size,0,none⟩ (s.w.alloc (.cells arr T)):=λ_=>rfl;simp[execOp,G,Instr.buildSlice,run_underlying M.und,C.run_size,Instr.fill,f];exact Zjd
 unfold Oper.wp;rw[p];exact E _ _ _ h (Vr B y c (by simp[maxLen]) ZbS e)
theorem A45{t T m b G bytes:Nat}{d:TypeDesc}{c:Int}(S:o.op=.makeSlice t x y)(N:o.guard=none)(E:σ.arg x=.d (ex (.int .i64 0)))(O:σ.arg y=.d (ex (.int .i64 c)))(M:Tab P t (.slice T) m b u)(V:Tab P T d G bytes z)(r:0<=c)(I:c<=1000000000)(g:bytes<=65536)(w:T≠335)(B:0<G)(F:VO o.dst n=true)(h:AWl P s0 n ops Q rest (σ.new o.dst (.own σ.hp.length) (.row T G []))):AWl P s0 n ops Q (o::rest) σ:=by
 refine AWl.step N λs W a R K X=>?_;have Z:a.eval x=.int .i64 0:=St.exD E ⟨s,W,rfl,R⟩;have L:a.eval y=.int .i64 c:=St.exD O ⟨s,W,rfl,R⟩;obtain⟨i,A,J,H,U⟩:=V.info;have Y:IntKind.i64.wrap 0=0:=rfl;have wc:IntKind.i64.wrap c=c:=IntWalk.i64_in _ ZbD;obtain⟨k,rfl⟩:=YbH r;have C:k<=1000000000:=by omega
 have xf:bytes*k<=65536*1000000000:=YaW g C
 have xg:((bytes:Int)*(k:Int))<=281474976710656:=by
  have:((bytes*k:Nat):Int)<=((65536*1000000000:Nat):Int):=Int.ofNat_le.2 xf;rw[Ydr]at this;omega
 have xc:k*bytes<=roomBytes:=by
  rw[YaM];have:roomBytes=140737488355328:=rfl;omega
 obtain⟨arr,v,p⟩:∃arr:Array Value,arr.size=k*G/\(execOp a.eval o).run P s.w=.ok (.value (.slice (some ⟨s.w.heap.size,0,none⟩) 0 k)) (s.w.alloc (.cells arr T)):=by
  have f:∀arr,(newRow T arr).run P s.w=.ok ⟨s.w.heap.size,0,none⟩ (s.w.alloc (.cells arr T)):=λ_=>rfl;have xd:¬(281474976710656<(bytes:Int)*(k:Int)):=by omega
  have xe:¬(roomBytes<k*bytes):=by omega
  have xb:¬((k:Int)<0):=by omega
  by_cases l:k*G=0
  .refine ⟨(Array.range (k*G)).map (λj=>(#[]:Array Value)[j%0]!), by simp, ?_⟩
   simp[execOp,S,Z,L,Instr.makeSlice,run_underlying M.und,asInt,asIntOf,typeInfo,A,U,Y,wc,xd,askRoom,xe,V.run_size,l,f,sizeOf,H,xb]
  .refine ⟨(Array.range (k*G)).map (λj=>z.cells[j%z.cells.size]!), by simp, ?_⟩
   have xa:k≠0:=λe=>l (by rw[e,YcC]);have q:G≠0:=by omega
   simp[execOp,S,Z,L,Instr.makeSlice,run_underlying M.und,asInt,asIntOf,typeInfo,A,U,Y,wc,xd,askRoom,xe,sizeOf,H,xa,q,zeroValue,J,f,xb];exact λh=>absurd h l
 unfold Oper.wp;rw[p];exact X _ _ _ h (Vr R w B ZiS v F)
end
def IP(s:GS)(h:Array Value)(R:List D):Prop:=h.size=R.length/\∀k,k<R.length->∃u,h[k]? = some u/\u.oneCell'=true/\(DK R k).rel s u
def TI(R:List D)(off:Nat)(m:List D):List D:=R.take off++(m++R.drop (off+m.length))
theorem Iw{off:Nat}(h:off+vn.length<=v.length):(TI v off vn).length=v.length:=by simp[TI];omega
theorem A95{off:Nat}(h:off+vn.length<=v.length)(k:Nat):DK (TI v off vn) k=if off<=k/\k<off+vn.length then DK vn (k-off)else DK v k:=by
 unfold TI DK;rw[Yab,YaQ];have A:(v.take off).length=off:=Zip
 rw[A];split
 .rename_i Q
  rw[Yai ZbD,YaJ,Yan Q];simp
 .rename_i F
  rw[YaQ];split
  .rename_i Q
   rw[Yan ZbD];simp
  .rename_i a
   rw[Yai ZbD,YbO];simp;congr 2;omega
theorem Ui(h:Array Value):∀(l:List (Value×Nat)) (b:Nat) (off:Nat),(∀p∈l,b<=p.2)->(l.map (·.2)).Pairwise (· < ·)->∀k,(l.foldl (λh (p:Value×Nat)=>h.setIfInBounds (off+p.2) p.1) h).size=h.size /\
  ((∀p∈l,off+p.2≠k)->(l.foldl (λh (p:Value×Nat)=>h.setIfInBounds (off+p.2) p.1) h)[k]? = h[k]?)/\(∀p∈l,off+p.2=k->k<h.size->(l.foldl (λh (p:Value×Nat)=>h.setIfInBounds (off+p.2) p.1) h)[k]? = some p.1)
 |[],b,off,_,_,k=>⟨rfl,λ_=>rfl,λp G=>by cases G⟩
 |q::l,b,off,F,G,k=>by
  have E:=Ydu.1 G;obtain⟨A,B,L⟩:=Ui (h.setIfInBounds (off+q.2) q.1) l (q.2+1) off (λp a=>E.1 p.2 (YbY a)) E.2 k;refine⟨by rw[Ydv,A];simp,λC=>?_,λp g C Q=>?_⟩
  .rw [Ydv,B λp a=>C p (Ybc _ a),YaP (C q Ybn)]
  .rw [Ydv]
   rcases YaK.1 g with rfl | a
   .rw [B λI J=>by have:p.2<I.2:=E.1 I.2 (YbY (f:=λx:Value×Nat=>x.2) J); omega, C]
    simp[Q]
   .exact L p a C (by simpa using Q)
theorem Abq{E K:Array Value}{off:Nat}(h:IP s E v)(r:IP s K vn)(q:off+vn.length<=v.length):IP s (K.zipIdx.foldl (λE (p:Value×Nat)=>E.setIfInBounds (off+p.2) p.1) E) (TI v off vn):=by
 rw[<-Array.foldl_toList];have o:K.zipIdx.toList=K.toList.zipIdx:=by simp
 rw[o]
 have i:(K.toList.zipIdx.map (·.2)).Pairwise (· < ·):=by
  show(List.map Prod.snd _).Pairwise _;rw[List.zipIdx_map_snd];exact List.pairwise_lt_range'
 have key:=Ui E K.toList.zipIdx 0 off (λ_ _=>Yaw _) i;refine⟨by rw[(key 0).1,Iw q,h.1],λk C=>?_⟩;rw[Iw q]at C;rw[A95 q];obtain⟨A,B,L⟩:=key k;by_cases V:off<=k/\k<off+vn.length
 .rw [Yan V]
  obtain⟨u,S,n,F⟩:=r.2 (k-off) ZbD;refine⟨u,?_,n,F⟩;refine L (u,k-off) ?_ (by show off+(k-off)=k;omega) (by rw[h.1];exact C);rw[Ycd];simpa using S
 .rw [Yai V]
  obtain⟨u,S,n,F⟩:=h.2 k C;refine⟨u,?_,n,F⟩;rw[B λp G=>?_,S];rw[Ycd]at G;have:=(Yae.1 G).1;simp[r.1]at this;omega
def Hf(place:Nat->Option (Nat×Nat))(R:List D):List (Nat×List D)->Option (List D)
 |[]=>some R
 |(i,m)::r=>match place i with
  |some (off,size)=>bif Nat.beq m.length size&&Nat.ble (off+size) R.length then Hf place (TI R off m) r else none
  |none=>none
def AbH(s:GS)(v:Value)(m:List D):Prop:=IP s v.cells m
def A14(s:GS):List (Nat×Value)->List (Nat×List D)->Prop
 |[],[]=>True
 |(i,v)::l,(j,m)::r=>i=j/\AbH s v m/\A14 s l r
 |_,_=>False
theorem Lb{s:GS}{place:Nat->Option (Nat×Nat)}:∀{l:List (Nat×Value)} {r:List (Nat×List D)} {C:Array Value} {R M:List D},A14 s l r->IP s C R->Hf place R r=some M->∃J,Instr.fill place C l=some J/\IP s J M
 |[],[],C,R,M,_,I,t=>by cases t;exact⟨C,rfl,I⟩
 |[],_::_,_,_,_,h,_,_=>h.elim
 |_::_,[],_,_,_,h,_,_=>h.elim
 |(i,v)::l,(j,m)::r,C,R,M,⟨K,G,X⟩,I,t=>by
  subst K;unfold Hf at t
  cases a:place i with
  |none=>rw[a]at t;cases t
  |some q=>
   obtain⟨off,size⟩:=q;rw[a]at t;simp only at t
   cases F:(Nat.beq m.length size&&Nat.ble (off+size) R.length)with
   |false=>rw[F]at t;cases t
   |true=>
    rw[F]at t;simp only[Yam,YdW]at F;have Z:m.length=size:=Yao F.1;have E:=F.2;have A:v.cells.size=size:=by rw[G.1,Z]
    have B:=Abq I G (off:=off) ZbD;obtain⟨J,L,S⟩:=Lb X B t;refine⟨J,?_,S⟩;unfold Instr.fill;rw[a];have c:=I.1;simp only;rw[Yai (by simp only[Ybg,Ybb,ne_eq,not_or,Decidable.not_not];omega)];exact L
def PartsA(G:List Ow)(arg:Operand->AV):List (Nat×Operand)->List (Nat×List D)->Prop
 |[],[]=>True
 |(i,x)::l,(j,m)::r=>i=j/\(arg x=.d (AP m)\/∃y,HW G (arg x)=some y/\One G (arg x)/\m=[y])/\PartsA G arg l r
 |_,_=>False
theorem PartsA.nil{hp:List Ow}:PartsA hp vC [] []:=trivial
theorem A3I{hp:List Ow}{i:Nat}{r:List (Nat×List D)}(h:vC x=.d (AP v))(X:PartsA hp vC ub r):PartsA hp vC ((i,x)::ub) ((i,v)::r):=⟨rfl,.inl h,X⟩
theorem PartsA.rel{base:Nat}{ρ:Nat->Value}{s:GS}{hp:List Ow}{arg:Operand->AV}{ev:Operand->Value}(J:HpOk base ρ s hp):∀{l:List (Nat×Operand)} {r:List (Nat×List D)},PartsA hp arg l r->(∀p∈l,AVr hp.length ρ s (arg p.2) (ev p.2))->A14 s (l.map λp=>(p.1,ev p.2)) r
 |[],[],_,_=>trivial
 |[],_::_,h,_=>h.elim
 |_::_,[],h,_=>h.elim
 |(i,x)::l,(j,m)::r,⟨A,B,L⟩,h=>by
  refine⟨A,?_,PartsA.rel J L λp hp=>h p (Ybc _ hp)⟩;have E:=h (i,x) Ybn;rcases B with B | ⟨y,B,h4,rfl⟩
  .have E:AVr hp.length ρ s (arg x) (ev x):=E
   rw[B]at E;obtain⟨F,e,n,I⟩:=E;show IP s (ev x).cells m;rw[e];exact⟨n,I⟩
  .have n:=h4 _ _ _ _ J E
   have I:=Ew J E B;show IP s (ev x).cells [y];have:(ev x).cells=#[ev x]:=by cases G:ev x<;>first | rfl | (rw[show ev x=_ from G]at n;cases n)
   rw[this];refine⟨rfl,λk C=>?_⟩;obtain rfl:k=0:=by simp at C;omega
   exact⟨ev x,rfl,n,I⟩
def FieldsT(P:Program):List Field->List (Nat×Nat)->Prop
 |[],[]=>True
 |f::l,p::r=>(∃d b z,Tab P f.type d p.2 b z)/\p.1=f.offset/\FieldsT P l r
 |_,_=>False
theorem FieldsT.nil:FieldsT P [] []:=trivial
theorem FieldsT.cons{f:Field}{l:List Field}{d:TypeDesc}{n b:Nat}{r:List (Nat×Nat)}(h:Tab P f.type d n b z)(X:FieldsT P l r):FieldsT P (f::l) ((f.offset,n)::r):=⟨⟨d,b,z,h⟩,rfl,X⟩
theorem FieldsT.run {P : Program} {w : World} : ∀ {l : List Field} {r : List (Nat × Nat)}, FieldsT P l r → (l.mapM fun f => do pure (f.offset, ← sizeOf f.type) : Sem (List (Nat × Nat))).run P w = .ok r w
 |[],[],_=>by simp
 |[],_::_,h=>h.elim
 |_::_,[],h=>h.elim
 |f::l,(o,n)::r,⟨⟨d,b,z,A⟩,B,L⟩=>by
  have u:=FieldsT.run (w:=w) L;have B:o=f.offset:=B;subst B;simp only[List.mapM_cons,Sem.run_bind,A.run_size,Result.andThen_ok,Sem.run_pure,u]
def VL(l:List Value):List D:=l.map ex
theorem Up(h:HP vB.toList=true):IP s vB (VL vB.toList):=by
 refine⟨by simp[VL],λk C=>?_⟩;simp[VL]at C;refine⟨vB[k],YaN C,Yaj.1 h _ ZbS,?_⟩;have:DK (VL vB.toList) k=ex vB[k]:=by simp[DK,VL,C]
 rw[this];rfl
section
variable {P:Program} {hp:List Ow} {o:Oper} {arg:Operand->AV}
theorem Quiet.build{r:Array Field}{n b:Nat}(J:o.op=.build t ub.toArray)(M:Tab P t (.struct r) n b z)(a:FieldsT P r.toList vv)(A:HP z.cells.toList=true)(X:PartsA hp arg ub uu)(F:Hf (λi=>vv[i]?) (VL z.cells.toList) uu=some v):Quiet P hp o arg (.d (AP v)):=by
 refine⟨λbase s W C I N d h=>?_⟩;have B:=PartsA.rel (ev:=C) d X λp c=>h p.2 (by rw[J];simp only[Op.operands,YdP];exact YbY c);obtain⟨K,L,S⟩:=Lb B (Up A) F;refine Cc (v:=.agg K) ?_ ⟨GS.Le.refl s,K,rfl,S⟩;have E:=FieldsT.run (w:=s.w) a
 have G : (r.mapM fun f => do pure (f.offset, ← sizeOf f.type) : Sem (Array (Nat × Nat))).run P s.w = .ok vv.toArray s.w := by
  rw[<-Array.toArray_toList (xs:=r),List.mapM_toArray,Sem.run_map,E];rfl
 have g:(λx:Nat=>vv.toArray[x]?)=λi=>vv[i]?:=by funext i;simp
 have y:(ub.toArray.map λp:Nat×Operand=>(p.1,C p.2)).toList=ub.map λp=>(p.1,C p.2):=by simp
 simp only[execOp,J,Instr.build,Sem.run_bind,M.run_zero,Result.andThen_ok,run_underlying M.und,G,g,y,L,Sem.run_pure]
theorem SF{len n b g y:Nat}{d:TypeDesc}(I:o.op=.build t ub.toArray)(M:Tab P t (.array len U) n b z)(C:Tab P U d g y u)(A:HP z.cells.toList=true)(X:PartsA hp arg ub uu)(F:Hf (λi=>some (i*g,g)) (VL z.cells.toList) uu=some v):Quiet P hp o arg (.d (AP v)):=by
 refine⟨λbase s W E G O K h=>?_⟩;have B:=PartsA.rel (ev:=E) K X λp c=>h p.2 (by rw[I];simp only[Op.operands,YdP];exact YbY c);obtain⟨N,L,S⟩:=Lb B (Up A) F;refine Cc (v:=.agg N) ?_ ⟨GS.Le.refl s,N,rfl,S⟩;have J:(ub.toArray.map λp:Nat×Operand=>(p.1,E p.2)).toList=ub.map λp=>(p.1,E p.2):=by simp
 simp only[execOp,I,Instr.build,Sem.run_bind,M.run_zero,Result.andThen_ok,run_underlying M.und,C.run_size,J,L,Sem.run_pure]
def FG(k:Nat):Nat->List D->List (List D)
 |0,_=>[]
 |n+1,R=>R.take k::FG k n (R.drop k)
theorem Bp(k:Nat):∀(n:Nat) (R:List D),(FG k n R).length=n
 |0,_=>rfl
 |n+1,R=>by simp[FG,Bp k n]
theorem MN(A:Nat):∀(n:Nat) (R:List D) (k:Nat),k<n->(FG A n R).getD k []=(R.drop (k*A)).take A
 |0,_,k,h=>absurd h ZbD
 |n+1,R,0,_=>by simp[FG]
 |n+1,R,k+1,h=>by
  have:=MN A n (R.drop A) k ZbD;rw[Ydi]at this;simp only[FG,Ydm,this,YcW];rw[YcX A]
theorem Quiet.buildSlice{len n b g y:Nat}{d:TypeDesc}{parts:List (Nat×Operand)}{r:List (Nat×List D)}(R:o.op=.buildSlice t len parts.toArray)(M:Tab P t (.slice U) n b z)(G:Tab P U d g y u)(q:0<len)(f:0<g)(K:u.cells.size=g)(xi:len*g<=16777216)(A:HP u.cells.toList=true)(X:PartsA hp arg parts r)(N:Hf (λi=>some (i*g,g)) (List.replicate (len*g) CD) r=some v):Quiet P hp o arg (.d (slD U g (FG g len v))):=by
 refine⟨λbase s W I O xd x h=>?_⟩;have B:=PartsA.rel (ev:=I) x X λp xk=>h p.2 (by rw[R];simp only[Op.operands,YdP];exact YbY xk)
 have xe:IP s ((Array.range (len*g)).map (λj=>u.cells[j%u.cells.size]!)) (List.replicate (len*g) CD):=Zaw
 obtain⟨xb,L,S⟩:=Lb B xe N
 have xl:len*g≠0:=by
  have:=YcS q f;omega
 have c:(parts.toArray.map λp:Nat×Operand=>(p.1,I p.2)).toList=parts.map λp=>(p.1,I p.2):=by simp
 have T:(execOp I o).run P s.w=.ok (.value (.slice (some ⟨s.w.heap.size,0,none⟩) len len)) (s.w.alloc (.cells xb U)):=by
  have xn:∀arr,(newRow U arr).run P s.w=.ok ⟨s.w.heap.size,0,none⟩ (s.w.alloc (.cells arr U)):=λ_=>rfl;have xm:¬(len*g>2^24):=by omega
  simp only[execOp,R,Instr.buildSlice,Sem.run_bind,run_underlying M.und,Result.andThen_ok,G.run_size,Yai xm,Yai xl,G.run_zero,Sem.run_pure,c,L,xn]
 have V:Ext s.w (s.w.alloc (.cells xb U)):=(Ext.refl _).alloc _;have H:=FI V
 have J:v.length=len*g:=by
  have e:∀(l:List (Nat×List D)) (xf xh:List D),Hf (λi=>some (i*g,g)) xf l=some xh->xh.length=xf.length:=by
   intro l
   induction l with
   |nil=>intro xf xh h;cases h;rfl
   |cons p l Y=>
    intro xf xh h;obtain⟨i,m⟩:=p;unfold Hf at h;simp only at h
    cases F:(Nat.beq m.length g&&Nat.ble (i*g+g) xf.length)with
    |false=>exact ZiY
    |true=>
     rw[F]at h;exact ZiP
  rw[e _ _ _ N];simp
 refine Ja T (s.grown (s.w.alloc (.cells xb U))) rfl ⟨H,_,len,by rw[Bp],by rw[Bp];exact Yah _,by have:=Nat.le_mul_of_pos_right len f;omega,λ_=>⟨s.w.heap.size,0,rfl,λk C=>?_⟩⟩;rw[Bp]at C
 have xj:k*g+g<=len*g:=by
  exact ZiK
 rw[MN _ _ _ _ C];refine⟨by simp;omega,xb,(0,0),heap_alloc_new s.w _,λj a=>?_⟩;have xg:j<g:=by simp at a;omega
 refine⟨.inr ⟨Yah _,by show _<(s.w.alloc _).heap.size;simp⟩,?_⟩;rw[Li xg,II,YaH];obtain⟨E,w,xa,xc⟩:=S.2 (k*g+j) ZbD;exact⟨E,w,xa,(DK v _).st xc H.chg⟩
theorem Quiet.slice{e n b K R T sz:Nat}{d:TypeDesc}{lo hi:Option Operand}{rows:List (List D)}{i j:Int}(V:o.op=.slice t x lo hi none)(F:HW hp (arg x)=some (slD T sz rows))(M:Tab P t (.slice e) n b z)(I:Tab P e d K R u)(f:K=sz)(U:(∃y,lo=some y/\arg y=.d (ex (.int .i64 i)))\/(lo=none/\i=0))(xe:(∃y,hi=some y/\arg y=.d (ex (.int .i64 j)))\/(hi=none/\j=rows.length))(J:0<=i)(w:i<=j)(a:j<=rows.length):Quiet P hp o arg (.d (slD T sz ((rows.take j.toNat).drop i.toNat))):=by
 refine⟨λbase s W N S H m h=>?_⟩;obtain⟨A,c,Z,B,C,L⟩:=Ew m (h x Zdr) F;subst f;obtain⟨i,rfl⟩:=YbH J;obtain⟨j,rfl⟩:=YbH (Yek J w);have xf:i<=j:=by omega
 have xd:j<=rows.length:=by omega
 have xi:∃xc,lo.map N=xc/\((xc=some (.int .i64 i))\/(xc=none/\i=0)):=by
  rcases U with⟨y,rfl,O⟩ | ⟨rfl,hi0⟩
  .exact Zax
  .exact Zjy
 have xh:∃xa,hi.map N=xa/\((xa=some (.int .i64 j))\/(xa=none/\j=rows.length)):=by
  rcases xe with⟨y,rfl,O⟩ | ⟨rfl,hi0⟩
  .exact Zax
  .exact Zjy
 obtain⟨xc,Y,X⟩:=xi;obtain⟨xa,r,l⟩:=xh;have xg:(j:Int)<=c:=by omega
 have xb:(i:Int)<=j:=by omega
 have G:(Instr.sliceBounds true rows.length c xc xa none).run P s.w=.ok (i,j,c) s.w:=by
  rcases X with rfl | ⟨rfl,rfl⟩<;>rcases l with rfl | ⟨rfl,rfl⟩<;>simp[Instr.sliceBounds,Instr.sliceBound,asIntOf,xg,xb,xf,xd,B]
  all_goals first | omega | simp[xf,xd,B] | skip
 have v:(execOp N o).run P s.w=.ok (.value (.slice (if c=i then A else A.map (·.add (i*K))) (j-i) (c-i))) s.w:=by
  simp only[execOp,V,Y,r,Z,YeB,Instr.sliceAt,Sem.run_bind,run_underlying M.und,Result.andThen_ok,Instr.slice,G,I.run_size,Sem.run_pure]
 have q:((rows.take (j:Int).toNat).drop (i:Int).toNat).length=j-i:=Zip
 refine Cc v ⟨GS.Le.refl s,(if c=i then A else A.map (·.add (i*K))),c-i,by rw[q],by rw[q];omega,by omega,λhp=>?_⟩;rw[q]at hp;obtain⟨g,p,rfl,Q⟩:=L ZbD;refine⟨g,p+i*K,?_,λk E=>?_⟩
 .rw [Yai ZbD]
  simp[Addr.add_lit]
 .rw [q]at E
  rw[show(j:Int).toNat=j from rfl,show(i:Int).toNat=i from rfl];rw[TN,Oz ZbD];have:=Q (i+k) ZbD;exact ZiZ
end
def AVle(G:List Ow)(m:Nat)(x y:AV):Prop:=∀base W s v,HpOk base W s G->AVr G.length W s x v->AVr m W s y v
theorem AVle.d{hp:List Ow}{m:Nat}{x y:D}(h:x=y):AVle hp m (.d x) (.d y):=λ_ _ _ _ _ r=>h▸r
theorem AVle.le{hp:List Ow}{m:Nat}{x y:D}(h:D.le x y):AVle hp m (.d x) (.d y):=λ_ _ s v _ r=>h s v r
theorem AVle.int{hp:List Ow}{m:Nat}{k:IntKind}{a b:Int}(h:a=b):AVle hp m (.d (ex (.int k a))) (.d (ex (.int k b))):=AVle.d (by rw[h])
theorem AVle.ptr{m i off:Nat}(h:Nat.blt i m=true):AVle H m (.ptr i off) (.ptr i off):=λ_ _ _ _ _ ⟨_,r⟩=>⟨by simpa[Ybm]using h,r⟩
theorem AVle.own{hp:List Ow}{m i:Nat}(h:Nat.blt i m=true):AVle hp m (.own i) (.own i):=λ_ _ _ _ _ ⟨_,r⟩=>⟨by simpa[Ybm]using h,r⟩
theorem BY{m:Nat}{f:FuncId}(h:l.all (Nat.blt · m)=true):AVle H m (.fn f l) (.fn f l):=λ_ _ _ _ _ ⟨_,r⟩=>⟨λi K=>by simpa[Ybm]using Yaj.1 h i K,r⟩
theorem Is{m i:Nat}(h:HW H (.own i)=some r)(J:D.le r vw):AVle H m (.own i) (.d vw):=λ_ _ s v B A=>J s v (Ew B A h)
theorem AL{T k:Nat}:D.le (ex (.slice none 0 0)) (slD T k []):=λs v h=>by
 have:v=.slice none 0 0:=h;subst this;exact slD.nil T k s
def FrLe(G:List Ow)(m:Nat)(f A:List (Nat×AV)):Prop:=∀p∈A,∃I,Ch f p.1=some I/\AVle G m I p.2
theorem FrLe.nil{hp:List Ow}{m:Nat}{f:List (Nat×AV)}:FrLe hp m f []:=λp hp=>by cases hp
theorem FrLe.cons{m:Nat}{f r:List (Nat×AV)}{t:Nat}{x y:AV}(h:Ch f t=some x)(J:AVle H m x y)(X:FrLe H m f r):FrLe H m f ((t,y)::r):=λp H=>by
 rcases YaK.1 H with rfl | H
 .exact ⟨x,h,J⟩
 .exact X p H
def OwLe(G:List Ow)(m:Nat):Ow->Ow->Prop
 |_,.dead=>True
 |.var T cells,.var o t=>T=o/\cells.length=t.length/\∀(k:Nat) y,t[k]? = some y->∃x,cells[k]? = some x/\AVle G m x y
 |.row T A C,.row o j F=>T=o/\A=j/\C=F
 |.obj O,.obj E=>O=E
 |.pin l,.pin B=>l.length=B.length/\∀(k:Nat) q,B[k]? = some q->∃p,l[k]? = some p/\p.1=q.1/\AVle G m p.2 q.2
 |_,_=>False
theorem OwLe.dead{m:Nat}{x:Ow}:OwLe H m x .dead:=by cases x<;>trivial
theorem OwLe.row{hp:List Ow}{m T sz:Nat}{r n:List (List D)}(h:r=n):OwLe hp m (.row T sz r) (.row T sz n):=⟨rfl,rfl,h⟩
theorem OwLe.obj{m:Nat}{O G:OD}(h:O=G):OwLe H m (.obj O) (.obj G):=h
theorem OwLe.pin{m:Nat}{l:List (Value×AV)}(h:∀p∈l,AVle H m p.2 p.2):OwLe H m (.pin l) (.pin l):=⟨rfl,λk q A=>⟨q,A,rfl,h q (YaE A)⟩⟩
theorem OwLe.var{m T:Nat}{c l:List AV}(J:c.length=l.length)(h:∀(k:Nat) y,l[k]? = some y->∃x,c[k]? = some x/\AVle H m x y):OwLe H m (.var T c) (.var T l):=⟨rfl,J,h⟩
theorem OwLe.varD{m T:Nat}{c l:List D}(h:c=l):OwLe H m (.var T (c.map .d)) (.var T (l.map .d)):=by
 subst h;refine⟨rfl,rfl,λk y O=>⟨y,O,?_⟩⟩;rw[Yax]at O
 cases C:c[k]? with
 |none=>rw[C]at O;cases O
 |some x=>rw[C]at O;cases O;exact AVle.d rfl
def HpLe(G:List Ow)(m:Nat):List Ow->List Ow->Prop
 |_,[]=>True
 |x::l,y::r=>OwLe G m x y/\HpLe G m l r
 |[],_::_=>False
theorem HpLe.nil{hp:List Ow}{m:Nat}{l:List Ow}:HpLe hp m l []:=by cases l<;>trivial
theorem HpLe.cons{m:Nat}{x y:Ow}{l r:List Ow}(h:OwLe H m x y)(X:HpLe H m l r):HpLe H m (x::l) (y::r):=⟨h,X⟩
theorem HpLe.get{G:List Ow}{m:Nat}:∀{l r:List Ow},HpLe G m l r->∀(i:Nat) y,r[i]? = some y->∃x,l[i]? = some x/\OwLe G m x y
 |_,[],_,i,y,h=>by cases h
 |[],_::_,h,_,_,_=>h.elim
 |x::l,y::r,⟨A,B⟩,0,z,h=>by cases h;exact⟨x,rfl,A⟩
 |x::l,y::r,⟨A,B⟩,i+1,z,h=>HpLe.get B i z Zdi
theorem Ac{σ τ:AS}(Q:FrLe σ.hp τ.hp.length σ.fr τ.fr)(Y:HpLe σ.hp τ.hp.length σ.hp τ.hp):AS.le σ τ:=by
 intro v n a w ⟨s,W,d,h⟩
 have xb:∀(i:Nat) (R:Ow),τ.hp[i]? = some R->∀b,OwB s (W i) R b->∃o:Ow,σ.hp[i]? = some o/\OwB s (W i) o b:=λi R K b F=>by
  obtain⟨o,A,B⟩:=Y.get i R K;refine⟨o,A,?_⟩;cases o<;>cases R<;>first | exact B.elim | exact F.elim | exact F | (replace B:_=_:=B;subst B;exact F)
 refine⟨s,W,d,h.le,h.ok,λt X M=>?_,h.sz,h.df,λi R K=>?_,λi j o R g K E b F c=>?_,λi o b K F=>?_⟩
 .obtain ⟨xa,A,B⟩:=Q _ (Fe M)
  exact B _ _ _ _ h.hp (h.fr t xa A)
 .obtain ⟨o,A,B⟩:=Y.get i R K
  have L:=h.hp i o A
  cases R with
  |dead=>trivial
  |var T cells=>
   cases o with
   |dead=>exact B.elim
   |row=>exact B.elim
   |obj=>exact B.elim
   |pin=>exact B.elim
   |var Z xc=>
    obtain⟨rfl,N,H⟩:=B;obtain⟨b,G,U,P,r,p4,p5,p6,p7⟩:=L;refine⟨b,G,U,P,r,p4.trans N,p5,p6,λk X C=>?_⟩;obtain⟨x,f,e⟩:=H k X C;obtain⟨u,m,z,q5⟩:=p7 k x f;exact⟨u,m,z,e _ _ _ _ h.hp q5⟩
  |row T I V=>
   cases o with
   |dead=>exact B.elim
   |var=>exact B.elim
   |obj=>exact B.elim
   |pin=>exact B.elim
   |row Z xe xd=>
    obtain⟨rfl,rfl,rfl⟩:=B;exact L
  |obj O=>
   cases o with
   |obj O0=>
    replace B:O0=O:=B;subst B;exact L
   |_=>exact B.elim
  |pin l=>
   cases o with
   |pin l0=>
    intro q J;obtain⟨k,C⟩:=YbK J;obtain⟨p,f,e,m⟩:=B.2 k q C;have:=m _ _ _ _ h.hp (L p (YaE f));rwa [e]at this
   |_=>exact B.elim
 .obtain ⟨x,A,B⟩:=xb i o K b F
  obtain⟨y,L,S⟩:=xb j R E b c;exact h.sep i j x y g A L b B S
 .obtain ⟨x,A,B⟩:=xb i o K b F
  exact h.own i x b A B
def params:Nat->List D->List (Nat×AV)
 |_,[]=>[]
 |i,d::R=>(i,.d d)::params (i+1) R
theorem KQ:∀{R:List D} {i t:Nat} {I:AV},Ch (params i R) t=some I->i<=t/\t-i<R.length/\I=.d (DK R (t-i))
 |[],i,t,I,h=>by cases h
 |d::R,i,t,I,h=>by
  unfold params at h;rw[CY]at h;split at h
  .rename_i e
   subst e;cases h;exact⟨Yah _,by simp,by simp[DK]⟩
  .rename_i e
   obtain⟨A,B,L⟩:=KQ h;refine⟨by omega,by simp;omega,?_⟩;rw[L,show t-i=(t-(i+1))+1 by omega];simp[DK]
def Fk(x:Array Value):ResultVar->Sem Value
 |.tmp t=>pure (x.getD t undef)
 |.cell a t=>do loadVar t (<-asAddr (x.getD a undef))
structure ResV(P:Program)(σ:AS)(rv:ResultVar)(x:D):Prop where
 run:∀(base:Nat) (ρ:Nat->Value) (s:GS) (tmps:Array Value),HpOk base ρ s σ.hp->(∀t av,Ch σ.fr t=some av->AVr σ.hp.length ρ s av (tmps.getD t undef))->∃v,(Fk tmps rv).run P s.w=.ok v s.w/\x.rel s v
theorem ResV.tmp{σ:AS}{t:Nat}{x:D}(h:Ch σ.fr t=some g)(E:HW σ.hp g=some x):ResV P σ (.tmp t) x:=⟨λbase W s B A R=>⟨_,rfl,Ew A (R t g h) E⟩⟩
theorem ResV.cell{σ:AS}{t T l n b id:Nat}{d:TypeDesc}(h:Ch σ.fr t=some (.ptr id 0))(O:σ.hp[id]? = some (.var l i))(M:Tab P T d n b z)(e:Fa d=true)(I:A0x σ.hp i=some v)(A:i.length=n):ResV P σ (.cell t T) (AP v):=by
 refine⟨λbase W s x c p=>?_⟩;obtain⟨-,g,L,Z⟩:=p t _ h;obtain⟨r,B,S,E,K,N,y,V,Y⟩:=c id _ O;rw[L]at S;cases S;obtain⟨J,G⟩:=Sz I;have R:v.length=n:=by rw[<-J];exact A
 have key:∀j,∃u,j<n->s.w.cell? ⟨g,0+j,none⟩=some u/\u.oneCell'=true/\(DK v j).rel s u:=λj=>by
  by_cases a:j<n
  .have Q:j<i.length:=by omega
   obtain⟨u,m,o,q⟩:=Y j _ (Yac Q);refine⟨u,λ_=>⟨by rw[YaH];exact(Dh K).trans m,o,?_⟩⟩;exact Ew c q (G j _ (Yac Q))
  .exact Zjv
 obtain⟨f,F⟩:∃f:Nat->Value,∀j,j<n->s.w.cell? ⟨g,0+j,none⟩=some (f j)/\(f j).oneCell'=true/\(DK v j).rel s (f j):=⟨λj=>(key j).choose,λj a=>(key j).choose_spec a⟩;have X:=KK M e g 0 f λj a=>(F j a).1;refine⟨.agg ((List.range n).map f).toArray,?_,_,rfl,by simp[R],λk C=>?_⟩
 .simp [Fk,Z,asAddr,X]
 .rw [R]at C
  exact⟨f k,by simp[C],(F k C).2⟩
structure Rets(P:Program)(σ:AS)(rs:Array ResultVar)(r:D):Prop where
 run:∀(base:Nat) (ρ:Nat->Value) (s:GS) (tmps:Array Value) (fn:Func),fn.results=rs->HpOk base ρ s σ.hp->(∀t av,Ch σ.fr t=some av->AVr σ.hp.length ρ s av (tmps.getD t undef))->∃v,(results fn tmps).run P s.w=.ok v s.w/\r.rel s v
theorem Mv{A c m:Type}(r:Result A)(f:A->World->Result c)(g:c->World->Result m):(r.andThen f).andThen g=r.andThen λa w=>(f a w).andThen g:=by cases r<;>rfl
theorem TR{rv:ResultVar}(h:vP.results=#[rv])(r:(Fk vB rv).run P w=.ok z w):(results vP vB).run P w=.ok z w:=by
 unfold results;rw[h]
 cases rv with
 |tmp t=>simp[Fk]at r ⊢;exact r
 |cell a T=>simp[Fk]at r ⊢;exact r
theorem A2H(h:vP.results=#[uG,uX])(r:(Fk vB uG).run P w=.ok z w)(l:(Fk vB uX).run P w=.ok u w):(results vP vB).run P w=.ok (.tuple #[z,u]) w:=by
 have key:(results vP vB).run P w=((Fk vB uG).run P w).andThen λa N=>((Fk vB uX).run P N).andThen λb L=>.ok (.tuple #[a,b]) L:=by
  unfold results;rw[h];cases uG<;>cases uX<;>simp[Fk,Mv]
 rw[key,r,Result.andThen_ok,l,Result.andThen_ok]
theorem Am{x r:D}(h:ResV P ve uG x)(J:D.le x r):Rets P ve #[uG] r:=⟨λbase W s E Z t C R=>by
 obtain⟨v,A,B⟩:=h.run base W s E C R;exact⟨v,TR t A,J s v B⟩⟩
theorem Rets.of2(h:ResV P ve uG r)(b:ResV P ve uX vw)(J:D.le (FY [r,vw]) uq):Rets P ve #[uG,uX] uq:=⟨λbase W s x Z t E R=>by
 obtain⟨v,A,B⟩:=h.run base W s x E R;obtain⟨Y,L,S⟩:=b.run base W s x E R;refine⟨_,A2H t A L,J s _ ⟨_,rfl,rfl,λk C=>?_⟩⟩
 match k,C with
 |0,_=>exact⟨_,rfl,B⟩
 |1,_=>exact⟨_,rfl,S⟩
 |k+2,C=>exact absurd C ZbS⟩
structure Fin(P:Program)(fn:Func)(r:D)(e:Exit)(σ:AS):Prop where
 how:e=.ret\/e=.normal
 res:Rets P σ fn.results r
theorem AA(h:Rets P ve vP.results r):Fin P vP r .ret ve:=⟨.inl rfl,h⟩
theorem Abs.intro{f:FuncId}{c:Code}{ds:List D}(N:P.funcs[f]? = some vP)(F:vP.body=some c)(k:∀args w,(callFunc f args).run P w=.ok (.enter f args) w)(E:Nat.ble ds.length vP.ntmps=true)
  (h:∀O,AWp P O vP.ntmps c (Fin P vP r) ⟨params 0 ds,[]⟩):Abs P f ds r:=by
 refine⟨k,λs Y V J I=>calls_of_wp N F ?_⟩;have Z:ds.length<=vP.ntmps:=by simpa[YdW]using E
 refine wp_mono ((h ⟨s,λ_=>False,[]⟩).run { tmps:=Y.toArray++Array.replicate (vP.ntmps-Y.toArray.size) undef,defers:=[] } s.w ⟨s,λ_=>undef,rfl,GS.LeX.refl _ s,V,λt X M=>?_,by simp;omega,rfl,(λi o K=>by cases K),(λi j o Q _ K=>by cases K),(λi o b K=>by cases K)⟩) ?_
 .obtain ⟨_,B,L⟩:=KQ M
  rw[Nat.sub_zero]at B L;subst L;have S:=I t B;show(DK ds t).rel s ((Y.toArray++Array.replicate (vP.ntmps-Y.toArray.size) undef).getD t undef)
  have:(Y.toArray++Array.replicate (vP.ntmps-Y.toArray.size) undef).getD t undef=Y.getD t undef:=by
   exact Zii
  rw[this];exact S
 .intro e a w ⟨g,⟨C,R⟩,G,W,d,T⟩
  subst d;obtain⟨v,A,B⟩:=R.run _ W G a.tmps vP rfl T.hp T.fr;rcases C with rfl | rfl
  .exact Zjz
  .exact Zjz
inductive HR
 |av (r:AV)
 |new (T:TypeId) (cs:List Value)
def HR.val:HR->AV
 |.av r=>r
 |.new _ _=>.d CD
def DZ(d:AS)(rs:List HR)(m:List (Nat×Nat)):Operand->AV
 |.tmp t=>match m.find? (λp=>p.1==t)with
  |some p=>match rs[p.2]? with
   |some h=>h.val
   |none=>.d CD
  |none=>(Ch d.fr t).getD (.d CD)
 |.global _=>.d CD
 |x=>d.arg x
def HStep(P:Program)(A:AS)(rs:List HR)(m:List (Nat×Nat))(o:Oper):HR->Prop
 |.av r=>(o.guard=none/\Quiet P A.hp o (DZ A rs m) r)\/∃j b u,o.guard=some (j,b)/\rs[j]? = some (.av (.d (ex u)))/\((u=.bool b/\Quiet P A.hp o (DZ A rs m) r)\/(u≠.bool b/\r=.d (ex undef)))
 |.new T h=>o.guard=none/\o.op=.alloc T/\T≠335/\HP h=true/\∃d n b z,Tab P T d n b z/\z.cells.toList=h
def HSteps(P:Program)(d:AS)(rs:List HR):List Oper->List (List (Nat×Nat))->List HR->Prop
 |o::L,x::S,r::T=>HStep P d rs x o r/\HSteps P d rs L S T
 |_,[],[]=>True
 |_,_,_=>False
theorem HSteps.nil{σ:AS}{rs:List HR}{L:List Oper}:HSteps P σ rs L [] []:=by cases L<;>trivial
theorem HStep.q{σ:AS}{rs:List HR}{r:AV}(A:va.guard=none)(h:Quiet P σ.hp va (DZ σ rs vv) r):HStep P σ rs vv va (.av r):=.inl ⟨A,h⟩
variable{ur:List HR}
theorem Be{j:Nat}{b:Bool}(A:va.guard=some (j,b))(a:ur[j]? = some (.av (.d (ex (.bool b)))))(h:Quiet P ve.hp va (DZ ve ur vv) g):HStep P ve ur vv va (.av g):=.inr ⟨j,b,.bool b,A,a,.inl ⟨rfl,h⟩⟩
theorem A6r{j:Nat}(A:va.guard=some (j,p))(a:ur[j]? = some (.av (.d (ex z))))(C:isB z p=false):HStep P ve ur vv va (.av (.d (ex undef))):=.inr ⟨j,p,z,A,a,.inr ⟨A5s C,rfl⟩⟩
theorem HStep.n{σ:AS}{rs:List HR}{o:Oper}{T n b:Nat}{d:TypeDesc}(B:o.guard=none)(M:Tab P T d n b z)(G:o.op=.alloc T)(k:T≠335)(A:HP z.cells.toList=true):HStep P σ rs vv o (.new T z.cells.toList):=⟨B,G,k,A,d,n,b,z,M,rfl⟩
def AS.aft(d:AS):List Oper->List HR->AS
 |o::L,.av r::a=>AS.aft (d.put o.dst r) L a
 |o::L,.new T h::a=>AS.aft (d.new o.dst (.ptr d.hp.length 0) (.var T (ZB h))) L a
 |_,_=>d
def HFact(m:Nat)(ρ:Nat->Value)(W:Nat)(i:Nat):HR->Value->GS->Prop
 |.av r=>λv s=>AVr m ρ s r v
 |.new T h=>λv s=>∃b,v=.pointer (some ⟨b,0,none⟩)/\W<=b/\s.w.heap[b]? = some (.cells h.toArray T (0,0))/\(∀k,¬s.S b k)/\s.tag b=i+1/\T≠335/\HP h=true
theorem HFact.st{m:Nat}{ρ:Nat->Value}{W i:Nat}{r:HR}:RegG.Stab (HFact m ρ W i r):=λv s j J h=>by
 cases r with
 |av r=>exact AVr.chg h J.chg
 |new T E=>
  obtain⟨b,A,B,L,S,n,F,g⟩:=h;exact⟨b,A,B,(J.ext.block (Bw L)).trans L,λk C=>S k (J.old b k (Bw L) C),(J.tag b (Bw L)).trans n,F,g⟩
def facts(m:Nat)(ρ:Nat->Value)(W:Nat):Nat->List HR->List RegG.VFact
 |_,[]=>[]
 |i,r::a=>HFact m ρ W i r::facts m ρ W (i+1) a
theorem Nx{m:Nat}{ρ:Nat->Value}{W:Nat}:∀{a:List HR} {i j:Nat} {r:HR},a[j]? = some r->(facts m ρ W i a)[j]? = some (HFact m ρ W (i+j) r)
 |[],i,j,r,h=>by cases h
 |x::a,i,0,r,h=>by cases h;rfl
 |x::a,i,j+1,r,h=>by
  have:=Nx (m:=m) (ρ:=ρ) (W:=W) (i:=i+1) (by simpa using h:a[j]? = some r);simp only[facts,YcR,this];congr 2;omega
theorem Sg{m:Nat}{A:Nat->Value}{W:Nat}:∀(a:List HR) (i:Nat),RegG.StabAll (facts m A W i a)
 |[],_=>trivial
 |_::a,i=>⟨HFact.st,Sg a (i+1)⟩
theorem Uj{m:Nat}{A:Nat->Value}{W:Nat}:∀(a:List HR) (i:Nat),(facts m A W i a).length=a.length
 |[],_=>rfl
 |_::a,i=>by simp[facts,Uj a (i+1)]
theorem A0y{s0:An}{n:Nat}{s':GS}{m W:Nat}{ρ0:Nat->Value}{g:Nat->Value}:∀{L:List Oper} {rs:List HR} {i:Nat} {σ:AS} {a:Act} {ρ:Nat->Value},L.length=rs.length->StI s0 n σ a s' ρ->m<=σ.hp.length->(∀j,j<m->ρ j=ρ0 j)->s0.g.w.heap.size<=W ->
  (∀k o b,σ.hp[k]? = some o->OwB s' (ρ k) o b->b<W\/∃j,j<i/\s'.tag b=j+1)->(∀(j:Nat) r,rs[j]? = some r->HFact m ρ0 W (i+j) r (g (i+j)) s')->HH L L.length n=true->∃ρ',StI s0 n (σ.aft L rs) (FA g L i a) s' ρ'
 | [],[],i,σ,a,ρ,_,h,_,_,_,_,_,_=>⟨ρ,h⟩
 | [],_::_,_,_,_,_,hl,_,_,_,_,_,_,_=>by simp at hl
 | _::_,[],_,_,_,_,hl,_,_,_,_,_,_,_=>by simp at hl
 | o::L,r::rs,i,σ,a,ρ,hl,h,hm,hρ,hW,hb,hf,hd=>by
  have hd1:∀d,o.dst=some d->d<n:=λd hdo=>by
   have h2:=Yaj.1 hd o (by simp)
   simp only [hdo,Ybb] at h2
   exact h2
  have hd2:HH L L.length n=true:=Yaj.2 λx hx=>Yaj.1 hd x (by simp at hx ⊢;exact .inr hx)
  have hf0:=hf 0 r rfl
  rw [Ybd] at hf0
  have hf':∀(j:Nat) r',rs[j]? = some r'->HFact m ρ0 W (i+1+j) r' (g (i+1+j)) s':=λj r' hj=>by
   have:=hf (j+1) r' (by simpa using hj)
   rw [show i+(j+1)=i+1+j by omega] at this
   exact this
  cases r with
  | av r=>
   have h1:=h.put (GS.Le.refl s') hd1 (v:=g i) (r:=r) (hf0.mono hm hρ)
   refine A0y (L:=L) (rs:=rs) (i:=i+1) (by simpa using hl) h1 ?_ hρ hW ?_ hf' hd2
   .cases hdo:o.dst<;>exact hm
   .intro k o' b hk hv
    have hk':σ.hp[k]? = some o':=by cases hdo:o.dst<;>(rw [hdo] at hk;exact hk)
    rcases hb k o' b hk' hv with h2 | ⟨j,h2,h3⟩
    .exact .inl h2
    .exact .inr ⟨j,by omega,h3⟩
  | new T cs=>
   obtain ⟨b,e1,e2,e3,e4,e5,e6,e7⟩:=hf0
   have h1:=h.newG (GS.Le.refl s') hd1 (v:=g i) (u:=.pointer (some ⟨b,0,none⟩)) (r:=.ptr σ.hp.length 0) (ow:=.var T (ZB cs)) ⟨by omega,b,by simp,e1⟩ ?_ ?_ (λb' hb'=>by cases hb';exact .inr (Yat hW e2))
   .refine A0y (L:=L) (rs:=rs) (i:=i+1) (by simpa using hl) h1 (by show m<=(σ.hp++[_]).length; simp; omega) (λj hj=>by rw [Yai (by omega)]; exact hρ j hj) hW ?_ hf' hd2
    intro k o' b' hk hv
    replace hk:(σ.hp++[Ow.var T (ZB cs)])[k]? = some o':=hk
    rw [YaQ] at hk
    split at hk
    .rename_i hlt
     rw [Yai (by omega)] at hv
     rcases hb k o' b' hk hv with h2 | ⟨j,h2,h3⟩
     .exact .inl h2
     .exact .inr ⟨j,by omega,h3⟩
    .rename_i hge
     have:k=σ.hp.length:=by
      have:=Cy hk
      simp at this
      omega
     subst this
     rw [Yan rfl] at hv
     have ho:o' = .var T (ZB cs):=by simp at hk;exact hk.symm
     subst ho
     cases hv
     exact .inr ⟨i,by omega,e5⟩
   .refine ⟨b, cs.toArray, by simp, Yaw _, e3, by simp [ZB], e6, e4, λk av hk=>?_⟩
    unfold ZB at hk
    rw [Yax] at hk
    cases hz:cs[k]? with
    | none=>rw [hz] at hk;cases hk
    | some u=>
     rw [hz] at hk
     cases hk
     exact ⟨u,by simpa using hz,Yaj.1 e7 u (YaE hz),rfl⟩
   .intro b' hb' k o' hk hv
    cases hb'
    rcases hb k o' b hk hv with h2 | ⟨j,h2,h3⟩
    .omega
    .omega
structure DrawOk(P:Program)(s0:An)(n:Nat)(id:Nat)(L0:Array Oper)(L:List Oper)(Q0 Q:Exit->AS->Prop):Prop where
 run:∀(a:Act) (w:World),wpAny P .any L.toArray (GG s0 n Q) L.toArray.size (Array.replicate L.toArray.size false) a w.drew->(Code.region id L0 true).wp P (GG s0 n Q0) a w
theorem HM{s0:An}{n:Nat}{L:List Oper}{Q:Exit->AS->Prop}(x:P.follows .mixedOrders=true):DrawOk P s0 n b L.toArray L Q Q:=⟨λ_ _ h=>wp_region_any x h⟩
theorem A6G{P:Program}{s0:An}{n:Nat}{Q Q0:Exit->AS->Prop}{σ:AS}{id:Nat}{L0:Array Oper}{L:List Oper}(hm:DrawOk P s0 n id L0 L Q0 Q)(es:List (List (Nat×Nat)))(bs:List (List Nat))(rs:List HR)(hlen:(es.length==bs.length&&es.length==rs.length&&Nat.ble rs.length L.length)=true)(hok:Ed L (Gg 0 es bs)=true)(hd:HH L es.length n=true)(steps:HSteps P σ rs L es rs)
  (tail:AWl P s0 n L.toArray Q (L.drop es.length) (σ.aft (L.take es.length) rs)):AWp P s0 n (.region id L0 true) Q0 σ:=by
 refine ⟨λa w ⟨s,ρ,hw,hst⟩=>?_⟩
 subst hw
 simp only [Yam,YcD,YdW] at hlen
 obtain ⟨⟨hl1,hl2⟩,hl3⟩:=hlen
 refine RegG.wp_region_v (hm.run a s.w) es bs (facts σ.hp.length ρ s.w.heap.size 0 rs) (by rw [Uj];simp [hl1,hl2];omega) hok (by rw [hst.sz];exact hd) (Sg rs 0) ?_ λg s' hE hF=>?_
 .have hle0:GS.Le s s.dr:=JZ s
  have step:∀(o:Oper) (x:List (Nat×Nat)) (r:HR) (i:Nat),HStep P σ rs x o r->RegG.UStep P (facts σ.hp.length ρ s.w.heap.size 0 rs) a s.dr o x (HFact σ.hp.length ρ s.w.heap.size i r):=by
   intro o x r i hr s1 ev hE hk ha hc hf
   have hle:GS.Le s s1:=hle0.trans hE
   have hhp:=hst.hp.le hle
   have hok1:=hle.ok hst.ok
   have hbase:0<=s1.w.heap.size:=Yaw _
   have hknown:∀(x:List (Nat×Nat)),RegG.OpsKnown (facts σ.hp.length ρ s.w.heap.size 0 rs) ev s1 x->∀p∈x,∀F,(facts σ.hp.length ρ s.w.heap.size 0 rs)[p.2]? = some F->F (ev (.tmp p.1)) s1:=by
    intro x
    induction x with
    | nil=>intro _ p hp;cases hp
    | cons q x ih=>
     intro h p hp
     obtain ⟨t,j⟩:=q
     rcases YaK.1 hp with rfl | hp
     .exact h.1
     .exact ih h.2 p hp
   have hargs:∀y,y∈o.op.operands->AVr σ.hp.length ρ s1 (DZ σ rs x y) (ev y):=by
    intro y _
    cases y with
    | tmp t=>
     show AVr _ ρ s1 (match x.find? (λp=>p.1==t) with
      | some p=>match rs[p.2]? with
       | some h=>h.val
       | none=>.d CD
      | none=>(Ch σ.fr t).getD (.d CD)) _
     cases hfd:x.find? (λp=>p.1==t) with
     | some p=>
      have hp:p∈x:=Ybl hfd
      have hpt:p.1=t:=by simpa using YcE hfd
      simp only
      cases hrp:rs[p.2]? with
      | none=>trivial
      | some h=>
       have h1:=hknown x hk p hp _ (Nx hrp)
       rw [hpt] at h1
       cases h with
       | av r=>exact h1
       | new T cs=>trivial
     | none=>
      simp only
      rw [ha t λp hp e=>by have:=Yce.1 hfd p hp;simp [e] at this]
      exact (hst.arg (.tmp t)).chg hle.chg
    | const v=>show ev _=v;exact hc v
    | global b=>
     trivial
    | func f=>show ev _=_;exact hf f
   cases r with
   | av r=>
    rcases hr with ⟨hg,hq⟩ | ⟨j,b,c,hg,hj,hq⟩
    .rw [hg]
     exact hq.run _ s1 ρ ev hok1 hbase hhp hargs
    .rw [hg]
     intro gv hgv
     have h1:=hgv _ (Nx hj)
     have e1:gv=c:=h1
     rcases hq with ⟨rfl,hq⟩ | ⟨hne,rfl⟩
     .exact ⟨λ_=>hq.run _ s1 ρ ev hok1 hbase hhp hargs,λh=>absurd e1 h⟩
     .exact ⟨λh=>by rw [e1] at h;exact absurd h hne,λ_=>rfl⟩
   | new T cs=>
    obtain ⟨hg,hop,hT,h1,d,k,b,z,ht,hz⟩:=hr
    rw [hg]
    subst hz
    have hrun:(execOp ev o).run P s1.w = .ok (.value (.pointer (some ⟨s1.w.heap.size,0,none⟩))) (s1.w.alloc (.cells z.cells T)):=by
     simp [execOp,hop,Instr.alloc,ht.run_zero,Ix]
    refine Ja hrun (s1.mk' z.cells T (i+1)) rfl ⟨s1.le_mk' z.cells T (i+1) hT,s1.w.heap.size,rfl,hle.ext.size,heap_alloc_new s1.w _,λk hk=>absurd (hok1.lt _ _ hk) (Ycf _),?_,hT,h1⟩
    show (if s1.w.heap.size=s1.w.heap.size then i+1 else _)=i+1
    rw [Yan rfl]
  have all:∀(L:List Oper) (es:List (List (Nat×Nat))) (T:List HR) (i:Nat),HSteps P σ rs L es T->RegG.USteps P (facts σ.hp.length ρ s.w.heap.size 0 rs) a s.dr L es (facts σ.hp.length ρ s.w.heap.size i T):=by
   intro L
   induction L with
   | nil=>
    intro es T i h
    cases es with
    | nil=>cases T with
     | nil=>trivial
     | cons=>exact h.elim
    | cons=>cases T<;>exact h.elim
   | cons o L ih=>
    intro es T i h
    cases es with
    | nil=>cases T with
     | nil=>trivial
     | cons=>exact h.elim
    | cons x es=>cases T with
     | nil=>exact h.elim
     | cons r T=>exact ⟨step o x r i h.1,ih es T (i+1) h.2⟩
  exact all L es rs 0 steps
 .have hle:GS.Le s s':=(JZ s).trans hE
  have hst':StI s0 n σ a s' ρ:=hst.put hle (dst:=none) (λd hd=>by cases hd) (v:=undef) (r:=.d CD) trivial
  have htl:(L.take es.length).length=rs.length:=by simp;omega
  obtain ⟨ρ',hfin⟩:=A0y (g:=g) (L:=L.take es.length) (rs:=rs) (i:=0) (W:=s.w.heap.size) (m:=σ.hp.length) (ρ0:=ρ) htl hst' (Yah _) (λ_ _=>rfl) hst.le.size (λk o b hk hv=>.inl ((hst.hp k o hk).blk_lt0 (OwB.le (hst.hp k o hk) hle hv))) (λj r hj=>by
   rw [YaH]
   have:=hF j _ (Nx hj)
   rwa [YaH] at this) (by
   have:(L.take es.length).take (L.take es.length).length=L.take es.length:=YaV
   unfold HH
   rw [this]
   exact hd)
  exact tail.run _ _ ⟨s',ρ',rfl,hfin⟩
section
variable {P:Program} {s0:An} {n:Nat} {Q:Exit->AS->Prop} {σ:AS}
theorem Kz(h:uv σ):AThen uv Q .normal σ:=⟨h⟩
theorem Ds(h:Q .ret σ):AThen uv Q .ret σ:=⟨h⟩
theorem BE{i:Nat}(h:Q (.exit i) σ):AThen uv Q (.exit i) σ:=⟨h⟩
theorem Bh{i:Nat}(h:Q .normal σ):ABlock i Q .normal σ:=⟨h⟩
theorem DU{i:Nat}(h:Q .ret σ):ABlock i Q .ret σ:=⟨h⟩
theorem BH{i:Nat}(h:Q .normal σ):ABlock i Q (.exit i) σ:=⟨by
 show(if i=i then Q .normal σ else Q (.exit i) σ);rw[Yan rfl];exact h⟩
theorem Zx{i j:Nat}(C:Nat.beq j i=false)(h:Q (.exit j) σ):ABlock i Q (.exit j) σ:=⟨by
 show(if j=i then Q .normal σ else Q (.exit j) σ);rw[Yai (YaI C)];exact h⟩
theorem It{m:Nat}(h:Q .ret σ):ALoop uY m Q .ret σ:=⟨h⟩
theorem BR{m i:Nat}(h:Q (.exit i) σ):ALoop uY m Q (.exit i) σ:=⟨h⟩
theorem Ah{m:Nat}(A:Nat){τ:AS}(x:A<m)(i:uY A τ)(J:AS.le σ τ):ALoop uY m Q .normal σ:=⟨A,x,τ,i,J⟩
end
def flD(T:TypeId)(k:Nat)(C:List (List D)):D:=⟨λs v=>(slD T k C).rel s v/\∃A,v=.slice A C.length C.length,λh I=>⟨(slD T k C).st h.1 I,h.2⟩⟩
section
variable {P:Program} {hp:List Ow} {o:Oper} {arg:Operand->AV}
theorem Wp{e n b J R T K:Nat}{d:TypeDesc}(V:o.op=.slice t x none (some y) (some vS))(F:HW hp (arg x)=some (slD T K vm))(M:Tab P t (.slice e) n b z)(I:Tab P e d J R u)(X:J=K)(O:arg y=.d (ex (.int .i64 (vj:Nat))))(v:arg vS=.d (ex (.int .i64 (vj:Nat))))(a:vj<=vm.length):Quiet P hp o arg (.d (flD T K (vm.take vj))):=by
 refine⟨λbase s W i S r Y h=>?_⟩;obtain⟨A,c,Z,B,C,L⟩:=Ew Y (h x Zdr) F;subst X
 have m:i y=.int .i64 (vj:Nat):=by
  have:=h y Zdr;rw[O]at this;exact this
 have l:i vS=.int .i64 (vj:Nat):=by
  have:=h vS Zdr;rw[v]at this;exact this
 have w:(vj:Int)<=c:=by omega
 have G:(Instr.sliceBounds true vm.length c none (some (.int .i64 (vj:Nat))) (some (.int .i64 (vj:Nat)))).run P s.w=.ok (0,vj,vj) s.w:=by
  simp[Instr.sliceBounds,Instr.sliceBound,asIntOf,w]
 have f:(execOp i o).run P s.w=.ok (.value (.slice (if vj=0 then A else A.map (·.add (0*J))) (vj-0) (vj-0))) s.w:=by
  simp only[execOp,V,m,l,Z,YeB,Yds,Instr.sliceAt,Sem.run_bind,run_underlying M.und,Result.andThen_ok,Instr.slice,G,I.run_size,Sem.run_pure]
 have q:(vm.take vj).length=vj:=Zip
 have j:∀g p,A=some ⟨g,p,none⟩->(if vj=0 then A else A.map (·.add (0*J)))=some ⟨g,p,none⟩:=λg p e=>by
  rw[e];split<;>simp[Addr.add_lit]
 refine Cc f ⟨GS.Le.refl s,⟨_,vj-0,by rw[q];rfl,by rw[q];exact Yah _,by omega,λhp=>?_⟩,⟨_,by rw[q];rfl⟩⟩;rw[q]at hp;obtain⟨g,p,Q,N⟩:=L ZbD;refine⟨g,p,j g p Q,λk E=>?_⟩;rw[q]at E;rw[Oz E];exact N k ZbD
theorem A0W{t T T2 e bytes m b:Nat}{d:TypeDesc}(v:o.op=.call { callee:=.builtin .append,args:=#[x,y],argTypes:=#[t,t] })(G:arg x=.d (flD T e vm))(Q:HW hp (arg y)=some (slD T2 e ul))(N:Tab P t (.slice T) m b u)(hT:Tab P T d e bytes z)(xt:z.cells.size=e)(xj:(vm.length+ul.length)*bytes<=140737488355328)(xp:vm.length+ul.length<=4611686018427387904):Quiet P hp o arg (.d (slD T e (vm++ul))):=by
 refine⟨λbase s W Y r xh xd h=>?_⟩;have xn:=h x Zfh;rw[G]at xn;obtain⟨⟨A,c,Z,C,E,L⟩,⟨A',xB⟩⟩:=xn;obtain⟨B,c',n,H,h8,h9⟩:=Ew xd (h y Zfh) Q;rw[Z]at xB;simp only[Value.slice.injEq]at xB;obtain⟨_,_,rfl⟩:=xB;obtain⟨i,K,f,xu,xv⟩:=hT.info
 have xy:∀w O,(Builtin.append_ #[t,t] o.type #[Y x,Y y]).run P s.w=.ok w O->(execOp Y o).run P s.w=.ok (.value w) O:=λw O X=>by
  simp only[execOp,v,resolve,invoke,builtin,Sem.run_bind,Sem.run_pure,Result.andThen_ok,YcJ,Ybf,Ycs,X]
 rcases Yaz ul.length with S | S
 .obtain rfl:ul=[]:=YaF S
  have X:(Builtin.append_ #[t,t] o.type #[Y x,Y y]).run P s.w=.ok (Y x) s.w:=by
   rw[n,Z]
   cases B with
   |none=>exact run_append_nothing s.w _ _ _ _ i N.und K _ _ _ (Yah _) _ (Src.ofNil s.w N.und c')
   |some ad=>exact run_append_nothing s.w _ _ _ _ i N.und K _ _ _ (Yah _) _ (Src.ofSlice s.w N.und _ _ _ [] ZbS ZbS ZbS)
  refine Cc (xy _ _ X) ⟨GS.Le.refl s,?_⟩;rw[YbD];exact⟨A,_,Z,C,E,L⟩
 .obtain ⟨g,p,rfl,xc⟩:=h9 S
  obtain⟨xg,n1,n2,n3,n4⟩:=Qu xc;have xr:∀j M,xg[j]? = some M->s.w.cell? ((⟨g,p,none⟩:Addr).add j)=some M:=λj M a=>by rw[Addr.add_lit];exact n2 j M a
  have xb:xg.length=ul.length*i.size:=by rw[n1,xu]
  subst xv
  obtain⟨U,x1,x4,x5⟩:∃U:List Value,U.length=vm.length*e/\(∀k j,k<vm.length->j<e->∃M,U[k*e+j]? = some M/\M.oneCell'=true/\(DK (vm.getD k []) j).rel s M)/\∃cap,vm.length+ul.length<=cap/\cap<=maxLen/\(Builtin.append_ #[t,t] o.type #[Y x,Y y]).run P s.w=.ok (.slice (some ⟨s.w.heap.size,0,none⟩) (vm.length+ul.length) cap) (s.w.drew.alloc (.cells (U.toArray++xg.toArray++Builtin.zeroCells z.cells (cap-(vm.length+ul.length))) T)):=by
   have xz:vm.length+ul.length<=maxLen:=ZiS
   have grow:∀(ad:Addr) (U:List Value),U.length=vm.length*i.size->(∀j M,U[j]? = some M->s.w.cell? (ad.add j)=some M)->A=some ad->(Builtin.append_ #[t,t] o.type #[Y x,Y y]).run P s.w=.ok (.slice (some ⟨s.w.heap.size,0,none⟩) (vm.length+ul.length) (grownCap s.w (vm.length+ul.length) vm.length T)) (s.w.drew.alloc (.cells (U.toArray++xg.toArray++Builtin.zeroCells z.cells (grownCap s.w (vm.length+ul.length) vm.length T-(vm.length+ul.length))) T)):=λad U xx xi hA=>by
    rw[Z,n,hA];exact run_append_grow (P:=P) s.w t o.type T i z N.und K f ad vm.length vm.length U xx xi ⟨g,p,none⟩ ul.length c' xg xb xr ZbD ZbD (growslice_fits ZbD xj)
   rcases Yaz vm.length with k0 | k0
   .refine ⟨[], by rw [k0, YcC]; rfl, λk j F=>by omega, ?_⟩
    cases A with
    |none=>
     refine⟨grownCap s.w (vm.length+ul.length) 0 T,grownCap_ge _ _ _ _,grownCap_le_maxLen _ _ _ _ xz,?_⟩;have X:=run_append_nil (P:=P) s.w t o.type T i z N.und K f ⟨g,p,none⟩ ul.length c' xg xb xr S ZbD (by have I:=xj;rw[k0,YaH]at I;omega);rw[Z,n,k0];simpa using X
    |some ad=>exact⟨_,grownCap_ge _ _ _ _,grownCap_le_maxLen _ _ _ _ xz,grow ad [] (by rw[k0,YcC];rfl) (λj M a=>by cases a) rfl⟩
   .obtain ⟨g1,p1,rfl,xf⟩:=L k0
    obtain⟨U,m1,m2,m3,m4⟩:=Qu xf;exact⟨U,m1,m4,_,grownCap_ge _ _ _ _,grownCap_le_maxLen _ _ _ _ xz,grow _ U (by rw[m1,xu]) (λj M a=>by rw[Addr.add_lit];exact m2 j M a) rfl⟩
  obtain⟨cap,xm,xl,X⟩:=x5;obtain⟨arr,xq⟩:∃arr,arr=U.toArray++xg.toArray++Builtin.zeroCells z.cells (cap-(vm.length+ul.length)):=⟨_,rfl⟩;rw[<-xq]at X;have V:Ext s.w (s.w.drew.alloc (.cells arr T)):=(Ext.refl _).drew.alloc _;have xe:=FI (s:=s) V;have xa:(s.w.drew.alloc (.cells arr T)).heap.size=s.w.heap.size+1:=Yeb ..;have J:(vm++ul).length=vm.length+ul.length:=Yaa;refine Ja (xy _ _ X) (s.grown (s.w.drew.alloc (.cells arr T))) rfl ⟨xe,_,cap,by rw[J],by rw[J];exact xm,by simpa[maxLen]using xl,λ_=>⟨s.w.heap.size,0,rfl,λk F=>?_⟩⟩;rw[J]at F
  have xw:((vm++ul).getD k []).length=e/\∀j,j<e->∃M,arr[k*e+j]? = some M/\M.oneCell'=true/\(DK ((vm++ul).getD k []) j).rel s M:=by
   have xo:∀q M,(U++xg)[q]? = some M->arr[q]? = some M:=λq M l=>by
    have R:=(Yae.1 l).1;rw[xq,Ydf Zeu];simpa using l
   rw[KL];split
   .rename_i R
    have xA:(vm.getD k []).length=e:=by
     obtain⟨g1,p1,_,xf⟩:=L ZbD;exact(xf k R).1
    refine⟨xA,λj a=>?_⟩;obtain⟨M,a1,a2,a3⟩:=x4 k j R a;refine⟨M,xo _ _ ?_,a2,a3⟩;rw[Yau (Yae.1 a1).1];exact a1
   .rename_i xk
    refine⟨(xc (k-vm.length) ZbD).1,λj a=>?_⟩;obtain⟨M,a1,a2,a3⟩:=n4 (k-vm.length) j ZbD a;refine⟨M,xo _ _ ?_,a2,a3⟩;have e3:k*e=vm.length*e+(k-vm.length)*e:=Zir
    rw[Yal ZbD,x1,<-a1];exact Zhc
  refine⟨xw.1,arr,(0,0),heap_alloc_new s.w.drew _,λj a=>?_⟩;rw[xw.1]at a;obtain⟨M,a1,a2,a3⟩:=xw.2 j a;exact⟨.inr ⟨Yah _,by rw[xa];omega⟩,M,by rw[YaH];exact a1,a2,(DK _ j).st a3 xe.chg⟩
theorem Ts{len n b g y:Nat}{d:TypeDesc}(R:o.op=.buildSlice t len ub.toArray)(M:Tab P t (.slice U) n b z)(G:Tab P U d g y u)(q:0<len)(f:0<g)(K:u.cells.size=g)(xh:len*g<=16777216)(A:HP u.cells.toList=true)(X:PartsA hp arg ub uu)(N:Hf (λi=>some (i*g,g)) (List.replicate (len*g) CD) uu=some v):Quiet P hp o arg (.d (flD U g (FG g len v))):=by
 refine⟨λbase s W I O xc w h=>?_⟩;have B:=PartsA.rel (ev:=I) w X λp xj=>h p.2 (by rw[R];simp only[Op.operands,YdP];exact YbY xj)
 have xd:IP s ((Array.range (len*g)).map (λj=>u.cells[j%u.cells.size]!)) (List.replicate (len*g) CD):=Zaw
 obtain⟨xa,L,S⟩:=Lb B xd N
 have xk:len*g≠0:=by
  have:=YcS q f;omega
 have c:(ub.toArray.map λp:Nat×Operand=>(p.1,I p.2)).toList=ub.map λp=>(p.1,I p.2):=by simp
 have H:(execOp I o).run P s.w=.ok (.value (.slice (some ⟨s.w.heap.size,0,none⟩) len len)) (s.w.alloc (.cells xa U)):=by
  have xm:∀arr,(newRow U arr).run P s.w=.ok ⟨s.w.heap.size,0,none⟩ (s.w.alloc (.cells arr U)):=λ_=>rfl;have xl:¬(len*g>2^24):=by omega
  simp only[execOp,R,Instr.buildSlice,Sem.run_bind,run_underlying M.und,Result.andThen_ok,G.run_size,Yai xl,Yai xk,G.run_zero,Sem.run_pure,c,L,xm]
 have V:Ext s.w (s.w.alloc (.cells xa U)):=(Ext.refl _).alloc _;have x:=FI V
 have J:v.length=len*g:=by
  have e:∀(l:List (Nat×List D)) (xe xg:List D),Hf (λi=>some (i*g,g)) xe l=some xg->xg.length=xe.length:=by
   intro l
   induction l with
   |nil=>intro xe xg h;cases h;rfl
   |cons p l Y=>
    intro xe xg h;obtain⟨i,m⟩:=p;unfold Hf at h;simp only at h
    cases F:(Nat.beq m.length g&&Nat.ble (i*g+g) xe.length)with
    |false=>exact ZiY
    |true=>
     rw[F]at h;exact ZiP
  rw[e _ _ _ N];simp
 refine Ja H (s.grown (s.w.alloc (.cells xa U))) rfl ⟨x,⟨_,len,by rw[Bp],by rw[Bp];exact Yah _,by have:=Nat.le_mul_of_pos_right len f;omega,λ_=>⟨s.w.heap.size,0,rfl,λk C=>?_⟩⟩,⟨_,by rw[Bp]⟩⟩;rw[Bp]at C
 have xi:k*g+g<=len*g:=by
  exact ZiK
 rw[MN _ _ _ _ C];refine⟨by simp;omega,xa,(0,0),heap_alloc_new s.w _,λj a=>?_⟩;have xf:j<g:=by simp at a;omega
 refine⟨.inr ⟨Yah _,by show _<(s.w.alloc _).heap.size;simp⟩,?_⟩;rw[Li xf,II,YaH];obtain⟨E,r,T,xb⟩:=S.2 (k*g+j) ZbD;exact⟨E,r,T,(DK v _).st xb x.chg⟩
end
end
