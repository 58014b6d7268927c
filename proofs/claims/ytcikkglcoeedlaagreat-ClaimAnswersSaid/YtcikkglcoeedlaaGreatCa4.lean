/- Part 4 of the proof of claimAnswers_holds. No condition. -/
import Derived.Deep.Upon
import Derived.Test.YtcikkglcoeedlaaGreatCa3
set_option linter.unusedSimpArgs false
set_option linter.unusedVariables false
set_option maxRecDepth 100000
namespace Go.Proofs.YtcikkglcoeedlaaGreat
variable{vc:AS}{ur:AS->Prop}{h:AV}{vY:Array Oper}{vy:Array Value}{vp ua:Code}{r vt ul:D}{vK:Func}{s:GS}{i j:Int}{vl uf:List (List D)}{uq:List (Nat×List D)}{vE:List (Nat×Nat)}{vX:List (Nat×Operand)}{u up:List AV}{c vn:List D}{l:List Nat}{H:List Ow}{b k:Nat}{uQ:Nat->AS->Prop}{vg:Nat->Value}{va:Oper}{x y:Operand}{vz:Operand->AV}{vC:Option Tmp}{vs:Ow}{P:Program}{uC uP:ResultVar}{t U:TypeId}{z v:Value}{w:World}
section
open Go.RowKit
def FE(s0:An)(n:Nat)(Q:Exit->AS->Prop):Exit->Act->World->Prop:=λe a w=>∃d,Q e d/\St s0 n d a w
structure AWp(P:Program)(s0:An)(n:Nat)(c:Code)(Q:Exit->AS->Prop)(σ:AS):Prop where
 run:∀a w,St s0 n σ a w->c.wp P (FE s0 n Q) a w
structure AWl(P:Program)(s0:An)(n:Nat)(ops:Array Oper)(Q:Exit->AS->Prop)(l:List Oper)(σ:AS):Prop where
 run:∀a w,St s0 n σ a w->wpList P ops (FE s0 n Q) l a w
def A6i(next:AS->Prop)(Q:Exit->AS->Prop):Exit->AS->Prop
 |.normal,d=>next d
 |e,d=>Q e d
structure AThen(next:AS->Prop)(Q:Exit->AS->Prop)(e:Exit)(σ:AS):Prop where
 run:A6i next Q e σ
def A4C(id:Nat)(Q:Exit->AS->Prop):Exit->AS->Prop
 |.exit j,d=>if j=id then Q .normal d else Q (.exit j) d
 |e,d=>Q e d
structure ABlock(id:Nat)(Q:Exit->AS->Prop)(e:Exit)(σ:AS):Prop where
 run:A4C id Q e σ
section
variable {P:Program} {s0:An} {n:Nat} {Q:Exit->AS->Prop} {σ:AS}
theorem Ao{x y:Code}(h:AWp P s0 n x (AThen (AWp P s0 n y Q) Q) σ):AWp P s0 n (.seq x y) Q σ:=⟨λa w f=>wp_seq (wp_mono (h.run a w f) λe C N ⟨X,⟨A⟩,B⟩=>by
 cases e with
 |normal=>exact AWp.run A C N B
 |_=>exact⟨X,A,B⟩)⟩
theorem AWp.block{id:Nat}{c:Code}(h:AWp P s0 n c (ABlock id Q) σ):AWp P s0 n (.block id c) Q σ:=⟨λa w f=>wp_block (wp_mono (h.run a w f) λe E N ⟨X,⟨A⟩,B⟩=>by
 cases e with
 |exit j=>
  show if j=id then FE s0 n Q .normal E N else FE s0 n Q (.exit j) E N
  have A:if j=id then Q .normal X else Q (.exit j) X:=A
  split
  .rename_i C;rw[if_pos C]at A;exact⟨X,A,B⟩
  .rename_i C;rw[if_neg C]at A;exact⟨X,A,B⟩
 |_=>exact⟨X,A,B⟩)⟩
theorem HG(h:Q .normal σ):AWp P s0 n .skip Q σ:=⟨λ_ _ f=>wp_skip ⟨σ,h,f⟩⟩
theorem BZ{id:Nat}(h:Q (.exit id) σ):AWp P s0 n (.exit id) Q σ:=⟨λ_ _ f=>wp_exit ⟨σ,h,f⟩⟩
theorem Ci(h:Q .ret σ):AWp P s0 n .ret Q σ:=⟨λ_ _ f=>wp_ret ⟨σ,h,f⟩⟩
theorem St.exD(E:σ.arg x=.d (ex z)){a:Act}(f:St s0 n σ a w):a.eval x=z:=by
 obtain⟨s,W,rfl,h⟩:=f;have:=h.arg x;exact ZhT
theorem Nq(I:σ.arg x=.d (ex (.bool true)))(h:AWp P s0 n vp Q σ):AWp P s0 n (.cond x vp ua) Q σ:=⟨λa w f=>wp_cond_true (f.exD I) (h.run a w f)⟩
theorem Nr(I:σ.arg x=.d (ex (.bool false)))(h:AWp P s0 n ua Q σ):AWp P s0 n (.cond x vp ua) Q σ:=⟨λa w f=>wp_cond_false (f.exD I) (h.run a w f)⟩
theorem Ie{t:Bool}(I:σ.arg x=.d (ex (.bool t)))(J:t=true)(h:AWp P s0 n vp Q σ):AWp P s0 n (.cond x vp ua) Q σ:=Nq (by rw[I,J]) h
theorem GE{t:Bool}(I:σ.arg x=.d (ex (.bool t)))(J:t=false)(h:AWp P s0 n ua Q σ):AWp P s0 n (.cond x vp ua) Q σ:=Nr (by rw[I,J]) h
theorem EN{t:Bool}(I:σ.arg x=.d (ex (.bool t)))(J:t=true->AWp P s0 n vp Q σ)(p:t=false->AWp P s0 n ua Q σ):AWp P s0 n (.cond x vp ua) Q σ:=by
 cases t with
 |true=>exact Nq I (J rfl)
 |false=>exact Nr I (p rfl)
def AS.le(x y:AS):Prop:=∀s0 n a w,St s0 n x a w->St s0 n y a w
theorem HF{σ':AS}(K:AS.le σ σ')(h:AWp P s0 n vp Q σ'):AWp P s0 n vp Q σ:=⟨λa w f=>h.run a w (K _ _ _ _ f)⟩
theorem AW{l:List Oper}{σ':AS}(K:AS.le σ σ')(h:AWl P s0 n vY Q l σ'):AWl P s0 n vY Q l σ:=⟨λa w f=>h.run a w (K _ _ _ _ f)⟩
def A6j(I:Nat->AS->Prop)(m:Nat)(Q:Exit->AS->Prop):Exit->AS->Prop
 |.normal,σ=>∃d,d<m/\∃X,I d X/\AS.le σ X
 |e,σ=>Q e σ
structure ALoop(I:Nat->AS->Prop)(m:Nat)(Q:Exit->AS->Prop)(e:Exit)(σ:AS):Prop where
 run:A6j I m Q e σ
theorem Az{c:Code}(I:Nat->AS->Prop){m:Nat}{σ':AS}(K:AS.le σ σ')(g:I m σ')(round:∀m σ,I m σ->AWp P s0 n c (ALoop I m Q) σ):AWp P s0 n (.loop c) Q σ:=by
 refine⟨λa w f b k B=>?_⟩
 have key:∀(m:Nat) (a:Act) (w:World) (σ:AS),I m σ->St s0 n σ a w->∃e E N,FE s0 n Q e E N/\Arrives P (lone (b.at a (.code c::.inLoop c::k)) B w) b k B e E N:=by
  intro m
  induction m using Nat.strongRecOn with
  |_ m q=>
   intro a w σ i x;obtain⟨e,M,F,⟨R,⟨C⟩,Z⟩,H⟩:=(round m σ i).run a w x b (.inLoop c::k) B
   cases e with
   |normal=>
    obtain⟨d,A,S,o,J⟩:=C;obtain⟨v,U,G,O,V⟩:=q d A M F S o (J _ _ _ _ Z);exact⟨v,U,G,O,.of_steps (Steps.trans H (.one step_inLoop)) V⟩
   |exit id=>exact Zir
   |goto l=>exact Zir
   |ret=>exact Zir
   |panic L=>exact Zir
   |outgrown=>exact Zir
 obtain⟨e,E,N,C,H⟩:=key m a w σ' g (K _ _ _ _ f);exact⟨e,E,N,C,.of_steps (.one step_loop) H⟩
end
def TU(x:Option Tmp)(n:Nat):Bool:=match x with | some d=>Nat.blt d n | none=>true
theorem IR{n:Nat}(h:TU vC n=true):∀d,vC=some d->d<n:=λd Z=>by subst Z;exact by simpa[TU,Nat.blt_eq]using h
section
variable {P:Program} {s0:An} {n:Nat} {ops:Array Oper} {Q:Exit->AS->Prop} {rest:List Oper} {o:Oper} {σ:AS}
theorem AWp.region{id:Nat}{l:List Oper}(h:AWl P s0 n l.toArray Q l σ):AWp P s0 n (.region id l.toArray false) Q σ:=⟨λa w f=>wp_region_lit (h.run a w f)⟩
theorem AWl.nil(h:Q .normal σ):AWl P s0 n ops Q [] σ:=⟨λ_ _ f=>⟨σ,h,f⟩⟩
theorem AWl.step(I:o.guard=none)(h:∀(s:GS) (W:Nat->Value) (a:Act),StI s0 n σ a s W->∀K:Act->World->Prop,(∀X C N,AWl P s0 n ops Q rest X->St s0 n X C N->K C N)->o.wp P a s.w K (FE s0 n Q)):AWl P s0 n ops Q (o::rest) σ:=by
 refine⟨λa w ⟨s,W,E,x⟩=>?_⟩;subst E;exact wpList_plain I λK m=>h s W a x K λX C N A B=>m C N (A.run C N B)
theorem VV{j:Nat}{A:Bool}(I:o.guard=some (j,A))(O:(ops[j]?).bind (·.dst)=some b)(E:BV σ.fr b=some (.d (ex (.bool A))))(h:∀(s:GS) (W:Nat->Value) (a:Act),StI s0 n σ a s W->∀K:Act->World->Prop,(∀X F N,AWl P s0 n ops Q rest X->St s0 n X F N->K F N)->o.wp P a s.w K (FE s0 n Q))(Z:b<n):AWl P s0 n ops Q (o::rest) σ:=by
 refine⟨λa w ⟨s,W,G,x⟩=>?_⟩;subst G;refine wpList_step λK m=>?_;have c:a.tmps.getD b undef=.bool A:=x.fr b _ E;have H:b<a.tmps.size:=by rw[x.sz];exact Z
 have v:a.tmps[b]? = some (.bool A):=by
  rw[Array.getD_eq_getD_getElem?,Array.getElem?_eq_getElem H]at c;rw[Array.getElem?_eq_getElem H];exact congrArg some c
 rw[if_pos (by simp[Region.wanted,I,yielded,O,v])];exact h s W a x K λX F N B C=>m F N (B.run F N C)
def isB:Value->Bool->Bool
 |.bool c,b=>c==b
 |_,_=>false
theorem A1R{b:Bool}(h:isB z b=false):z≠.bool b:=λe=>by
 rw[e]at h;simp[isB]at h
theorem A0S{j:Nat}{A:Bool}(E:o.guard=some (j,A))(O:(ops[j]?).bind (·.dst)=some b)(B:BV σ.fr b=some (.d (ex z)))(G:isB z A=false)(Z:b<n)(H:TU o.dst n=true)(h:AWl P s0 n ops Q rest (σ.put o.dst (.d (ex undef)))):AWl P s0 n ops Q (o::rest) σ:=by
 refine⟨λa w ⟨s,W,F,x⟩=>?_⟩;subst F;refine wpList_step λK m=>?_;have C:a.tmps.getD b undef=z:=x.fr b _ B;have M:b<a.tmps.size:=by rw[x.sz];exact Z
 have v:a.tmps[b]? = some z:=by
  rw[Array.getD_eq_getD_getElem?,Array.getElem?_eq_getElem M]at C;rw[Array.getElem?_eq_getElem M];exact congrArg some C
 have J:z≠.bool A:=A1R G
 rw[if_neg (by
  simp only[Region.wanted,E,yielded,O,Option.bind_some,v,beq_iff_eq];split
  .rename_i c I
   cases I;exact λe=>J (by rw[Option.some.inj e])
  .simp)]
 exact m _ _ (h.run _ _ ⟨s,W,rfl,x.put (GS.Le.refl s) (IR H) rfl⟩)
theorem Pn(f:BI o.op=true)(Z:TU o.dst n=true)(w:Quiet P σ.hp o σ.arg h)(A:AWl P s0 n ops Q rest (σ.put o.dst h)):∀(s:GS) (W:Nat->Value) (a:Act),StI s0 n σ a s W->∀K:Act->World->Prop,(∀X E N,AWl P s0 n ops Q rest X->St s0 n X E N->K E N)->o.wp P a s.w K (FE s0 n Q):=
 λs W a C K m=>RegG.opStep_wp f (λ_ _=>rfl) (w.run 0 s W a.eval C.ok (Nat.zero_le _) C.hp λx _=>C.arg x) λv j ⟨B,b⟩=>m _ _ _ A ⟨j,W,rfl,C.put B (IR Z) b⟩
theorem A0T(I:o.guard=none)(f:BI o.op=true)(Z:TU o.dst n=true)(w:Quiet P σ.hp o σ.arg h)(A:AWl P s0 n ops Q rest (σ.put o.dst h)):AWl P s0 n ops Q (o::rest) σ:=AWl.step I (Pn f Z w A)
theorem Yc{j:Nat}{B:Bool}(I:o.guard=some (j,B))(O:(ops[j]?).bind (·.dst)=some b)(K:BV σ.fr b=some (.d (ex (.bool B))))(W:b<n)(f:BI o.op=true)(Z:TU o.dst n=true)(w:Quiet P σ.hp o σ.arg h)(A:AWl P s0 n ops Q rest (σ.put o.dst h)):AWl P s0 n ops Q (o::rest) σ:=VV I O K (Pn f Z w A) W
end
section
variable {s0:An} {n:Nat} {σ:AS} {a:Act} {s:GS} {ρ:Nat->Value}
theorem Ca{i:Nat}{o:Ow}(h:H[i]? = some o):i<H.length:=(List.getElem?_eq_some_iff.1 h).1
theorem OwR.mono{base m N i:Nat}(h:OwR base m ρ s i vs)(t:m<=N)(x:∀j,j<m->vg j=ρ j)(M:i<m):OwR base N vg s i vs:=by
 cases vs with
 |dead=>trivial
 |var T cells=>
  obtain⟨b,E,A,B,L,V,I,z,d⟩:=h;refine⟨b,E,(x i M).trans A,B,L,V,I,z,λk U C=>?_⟩;obtain⟨u,J,K,Q⟩:=d k U C;exact⟨u,J,K,Q.mono t x⟩
 |row T F y=>
  unfold OwR;rw[x i M];exact h
 |obj O=>
  unfold OwR;rw[x i M];exact h
 |pin l=>exact λp G=>(h p G).mono t x
theorem OwR.keep{base m i:Nat}{J:GS}(h:OwR base m ρ s i vs)(I:GS.Chg s J)(F:∀b,OwB s (ρ i) vs b->J.w.heap[b]? = s.w.heap[b]? /\ ∀k,J.S b k↔s.S b k):OwR base m ρ J i vs:=by
 cases vs with
 |dead=>trivial
 |var T cells=>
  obtain⟨b,E,A,B,L,V,M,z,d⟩:=h;obtain⟨c,v⟩:=F b (show Dg (ρ i)=some b by rw[A];rfl);refine⟨b,E,A,B,c.trans L,V,M,λk C=>z k ((v k).1 C),λk U C=>?_⟩;obtain⟨u,N,R,Q⟩:=d k U C;exact⟨u,N,R,Q.chg I⟩
 |row T K y=>
  obtain⟨Z,⟨A,B⟩,L,V,M,z⟩:=h;refine⟨Z,⟨A,?_⟩,L,V,λb S k=>((F b S).2 k).trans (M b S k),λk C=>⟨(z k C).1,λj e=>?_⟩⟩
  .rcases B with B | ⟨g,cap,cur,c,v,e3,e4⟩
   .exact .inl B
   .exact .inr ⟨g,cap,cur,c,v,(F g (show Dg (ρ i)=some g by rw[c];rfl)).1.trans e3,e4⟩
  .obtain ⟨u,N,R,Q⟩:=(z k C).2 j e
   exact⟨u,N,R,(Dd _ j).st Q I⟩
 |obj O=>exact(O.keep h I F).1
 |pin l=>exact λp G=>(h p G).chg I
theorem StI.newG(h:StI s0 n σ a s ρ){E:GS}(K:GS.Le s E)(Z:∀d,vC=some d->d<n){v u:Value}{r:AV}{ow:Ow}(C:AVr (σ.hp.length+1) (λi=>if i=σ.hp.length then u else ρ i) E r v)
  (G:OwR 0 (σ.hp.length+1) (λi=>if i=σ.hp.length then u else ρ i) E σ.hp.length ow) (F:∀b,OwB E u ow b->∀i o,σ.hp[i]? = some o->¬OwB s (ρ i) o b) (I:∀b,OwB E u ow b->s0.mine b\/s0.g.w.heap.size<=b) :
  StI s0 n { fr:=(σ.put vC r).fr,hp:=σ.hp++[ow] } (a.put vC v) E (λi=>if i=σ.hp.length then u else ρ i):=by
 have x:∀j,j<σ.hp.length->(if j=σ.hp.length then u else ρ j)=ρ j:=λj e=>if_neg ZbK;have O:(σ.hp++[ow]).length=σ.hp.length+1:=by simp
 have key:∀i o,(σ.hp++[ow])[i]? = some o->∀b,OwB E (if i=σ.hp.length then u else ρ i) o b->(i<σ.hp.length/\σ.hp[i]? = some o/\OwB s (ρ i) o b)\/(i=σ.hp.length/\o=ow/\OwB E u ow b):=λi o M b w=>by
  rw[List.getElem?_append]at M;split at M
  .rename_i Q
   rw[if_neg ZbK]at w;exact .inl ⟨Q,M,OwB.le (h.hp i o M) K w⟩
  .rename_i p
   have:i=σ.hp.length:=by
    have:=Ca M;simp at this;omega
   subst this;simp at M;subst M;rw[if_pos rfl]at w;exact .inr ⟨rfl,rfl,w⟩
 refine⟨h.le.trans K,K.ok h.ok,λt U J=>?_,?_,?_,λi o M=>?_,λi j o l R M e b w S=>?_,λi o b M w=>?_⟩
 .show AVr (σ.hp++[ow]).length _ E U _
  rw[O]
  cases vC with
  |none=>exact((h.fr t U J).chg K.chg).mono (Nat.le_succ _) x
  |some d=>
   replace J:BV ((d,r)::σ.fr) t=some U:=J;rw[CD]at J;simp only[Act.put];by_cases V:d=t
   .rw [if_pos V]at J
    cases J;subst V;have:d<a.tmps.size:=by rw[h.sz];exact Z d rfl
    simp[this];exact C
   .rw [if_neg V]at J
    have:=((h.fr t U J).chg K.chg).mono (Nat.le_succ _) x;rw[Array.getD_eq_getD_getElem?]at this ⊢;rwa [Array.getElem?_setIfInBounds_ne V]
 .unfold Act.put;split<;>simp[h.sz]
 .unfold Act.put;split<;>simp[h.df]
 .show OwR 0 (σ.hp++[ow]).length _ E i o
  rw[O];rw[List.getElem?_append]at M;split at M
  .rename_i Q
   exact((h.hp i o M).le K).mono (Nat.le_succ _) x Q
  .rename_i p
   have:i=σ.hp.length:=by
    have:=Ca M;simp at this;omega
   subst this;simp at M;subst M;exact G
 .rcases key i o M b w with⟨A,B,L⟩ | ⟨A,B,L⟩<;>rcases key j l e b S with⟨m,z,N⟩ | ⟨m,z,N⟩
  .exact h.sep i j o l R B z b L N
  .exact F b N i o B L
  .exact F b L j l z N
  .omega
 .rcases key i o M b w with⟨A,B,L⟩ | ⟨A,B,L⟩
  .exact h.own i o b B L
  .exact I b L
theorem StI.new(h:StI s0 n σ a s ρ){j:GS}(K:GS.Le s j){dst:Option Tmp}(Z:∀d,dst=some d->d<n){v u:Value}{r:AV}{ow:Ow}(A:AVr (σ.hp.length+1) (λi=>if i=σ.hp.length then u else ρ i) j r v)
  (B:OwR 0 (σ.hp.length+1) (λi=>if i=σ.hp.length then u else ρ i) j σ.hp.length ow) (F:∀b,OwB j u ow b->s.w.heap.size<=b) :
  StI s0 n { fr:=(σ.put dst r).fr,hp:=σ.hp++[ow] } (a.put dst v) j (λi=>if i=σ.hp.length then u else ρ i):=by
 refine h.newG K Z A B (λb E i o M C=>?_) λb E=>.inr (Nat.le_trans h.le.size (F b E));have:=(h.hp i o M).blk_lt0 C;exact absurd (F b E) ZbK
end
section
variable {P:Program} {s0:An} {n:Nat} {ops:Array Oper} {Q:Exit->AS->Prop} {rest:List Oper} {o:Oper} {σ:AS}
theorem IJ(t:TypeId)(v:Value)(w:World):(newVar t v).run P w=.ok ⟨w.heap.size,0,none⟩ (w.alloc (.cells v.cells t)):=rfl
def AS.new(σ:AS)(dst:Option Tmp)(r:AV)(ow:Ow):AS:={ fr:=(σ.put dst r).fr,hp:=σ.hp++[ow] }
def Wf(l:List Value):List AV:=l.map λu=>.d (ex u)
def GP(l:List Value):Bool:=l.all (·.oneCell')
theorem AWl.alloc{T:TypeId}{d:TypeDesc}{m b:Nat}(E:o.op=.alloc T)(I:o.guard=none)(J:Tab P T d m b z)(G:T≠335)(A:GP z.cells.toList=true)(Z:TU o.dst n=true)(h:AWl P s0 n ops Q rest (σ.new o.dst (.ptr σ.hp.length 0) (.var T (Wf z.cells.toList)))):AWl P s0 n ops Q (o::rest) σ:=by
 refine AWl.step I λs W a x K M=>?_
 have L:(execOp a.eval o).run P s.w=.ok (.value (.pointer (some ⟨s.w.heap.size,0,none⟩))) (s.w.alloc (.cells z.cells T)):=by
  simp[execOp,E,Instr.alloc,J.run_zero,IJ]
 unfold Oper.wp;rw[L];refine M _ _ _ h ⟨s.mk' z.cells T 0,_,rfl,x.new (s.le_mk' z.cells T 0 G) (IR Z) (u:=.pointer (some ⟨s.w.heap.size,0,none⟩)) ⟨by omega,s.w.heap.size,by simp,rfl⟩ ?_ λb F=>by cases F;exact Nat.le_refl _⟩;refine⟨s.w.heap.size,z.cells,by simp,Nat.zero_le _,heap_alloc_new s.w _,by simp[Wf],G,λk C=>absurd (x.ok.lt _ _ C) (Nat.lt_irrefl _),λk U C=>?_⟩;unfold Wf at C;rw[List.getElem?_map]at C
 cases B:z.cells.toList[k]? with
 |none=>rw[B]at C;cases C
 |some u=>
  rw[B]at C;cases C;exact⟨u,by simpa using B,List.all_eq_true.1 A u (List.mem_of_getElem? B),rfl⟩
theorem AWl.box(N:o.op=.box t x)(O:o.guard=none)(E:σ.arg x=.d (AJ c))(R:t≠335)(Z:TU o.dst n=true)(h:AWl P s0 n ops Q rest (σ.new o.dst (.ptr σ.hp.length 0) (.var t (c.map .d)))):AWl P s0 n ops Q (o::rest) σ:=by
 refine AWl.step O λs W a J K X=>?_;have A:=J.arg x;rw[E]at A;obtain⟨G,I,B,L⟩:=A
 have S:(execOp a.eval o).run P s.w=.ok (.value (.pointer (some ⟨s.w.heap.size,0,none⟩))) (s.w.alloc (.cells G t)):=by
  simp only[execOp,N,I,Instr.box,Sem.run_bind,IJ,Result.andThen_ok,Sem.run_pure];rfl
 unfold Oper.wp;rw[S];have f:=s.le_mk' G t 0 R;refine X _ _ _ h ⟨s.mk' G t 0,_,rfl,J.new f (IR Z) (u:=.pointer (some ⟨s.w.heap.size,0,none⟩)) ⟨by omega,s.w.heap.size,by simp,rfl⟩ ?_ λb F=>by cases F;exact Nat.le_refl _⟩;refine⟨s.w.heap.size,G,by simp,Nat.zero_le _,heap_alloc_new s.w _,by simp[B],R,λk C=>absurd (J.ok.lt _ _ C) (Nat.lt_irrefl _),λk U C=>?_⟩;rw[List.getElem?_map]at C
 cases M:c[k]? with
 |none=>rw[M]at C;cases C
 |some x=>
  rw[M]at C;cases C;have p:k<c.length:=(List.getElem?_eq_some_iff.1 M).1;obtain⟨u,V,m,z⟩:=L k p;refine⟨u,V,m,?_⟩;have:Dd c k=x:=by simp[Dd,M]
  rw[this]at z;exact x.st z f.chg
end
def Ow.mapA(f:AV->AV):Ow->Ow
 |.var T cells=>.var T (cells.map f)
 |.pin l=>.pin (l.map λp=>(p.1,f p.2))
 |o=>o
theorem A2M{f:AV->AV}{b:Nat}:OwB s z (vs.mapA f) b↔OwB s z vs b:=by cases vs<;>exact Iff.rfl
theorem UJ(f:AV->AV):∀(l:List (Nat×AV)) (t:Nat),BV (l.map λp=>(p.1,f p.2)) t=(BV l t).map f
 |[],t=>rfl
 |p::r,t=>by
  rw[List.map_cons];obtain⟨a,U⟩:=p;rw[CD,CD,UJ f r t];split<;>rfl
section
variable {s0:An} {n:Nat} {σ:AS} {a:Act} {s:GS} {ρ:Nat->Value}
theorem StI.upd(h:StI s0 n σ a s ρ){s':GS}(xb:GS.LeX s0.mine s0.g s')(H:s'.Ok)(I:GS.Chg s s'){id:Nat}{o o':Ow}{ρ':Nat->Value}{f:AV->AV}(M:σ.hp[id]? = some o)
  (xg:∀b,b<s.w.heap.size->¬OwB s (ρ id) o b->s'.w.heap[b]? = s.w.heap[b]? /\ ∀k,s'.S b k↔s.S b k) (xc:∀j,j≠id->ρ' j=ρ j)
  (xi:OwR 0 σ.hp.length ρ' s' id o') (xm:∀b,OwB s' (ρ' id) o' b->OwB s (ρ id) o b\/s.w.heap.size<=b) (S:∀U v,AVr σ.hp.length ρ s U v->AVr σ.hp.length ρ' s' (f U) v) :
  StI s0 n { fr:=σ.fr.map λp=>(p.1,f p.2),hp:=(σ.hp.map (Ow.mapA f)).set id o' } a s' ρ':=by
 have Z:((σ.hp.map (Ow.mapA f)).set id o').length=σ.hp.length:=by simp
 have xe:∀i x,((σ.hp.map (Ow.mapA f)).set id o')[i]? = some x->(i=id/\x=o')\/(i≠id/\∃y,σ.hp[i]? = some y/\x=y.mapA f):=λi x E=>by
  rw[List.getElem?_set]at E;split at E
  .rename_i e
   split at E
   .cases E;exact .inl ⟨e.symm,rfl⟩
   .cases E
  .rename_i e
   rw[List.getElem?_map]at E
   cases N:σ.hp[i]? with
   |none=>rw[N]at E;cases E
   |some y=>rw[N]at E;cases E;exact .inr ⟨λe'=>e e'.symm,y,rfl,rfl⟩
 have xo:∀i y,i≠id->σ.hp[i]? = some y->∀b,OwB s (ρ i) y b->b<s.w.heap.size/\¬OwB s (ρ id) o b:=λi y P N b F=>⟨(h.hp i y N).blk_lt0 F,h.sep i id y o P N M b F⟩;have X:∀i y,i≠id->σ.hp[i]? = some y->∀b,OwB s (ρ i) y b->s'.w.heap[b]? = s.w.heap[b]? /\ ∀k,s'.S b k↔s.S b k:=λi y P N b F=>xg b (xo i y P N b F).1 (xo i y P N b F).2;have xk:∀i y,i≠id->σ.hp[i]? = some y->∀b,OwB s' (ρ' i) (y.mapA f) b->OwB s (ρ i) y b:=λi y P N b F=>OwB.keep (h.hp i y N) I (X i y P N) (by rw[<-xc i P];exact A2M.1 F);refine⟨xb,H,λt U J=>?_,h.sz,h.df,λi x E=>?_,λi j x y xd E N b xj xf=>?_,λi x b E F=>?_⟩
 .show AVr ((σ.hp.map (Ow.mapA f)).set id o').length ρ' s' U _
  rw[Z];rw[UJ]at J
  cases K:BV σ.fr t with
  |none=>rw[K]at J;cases J
  |some xn=>
   rw[K]at J;cases J;exact S _ _ (h.fr t xn K)
 .show OwR 0 ((σ.hp.map (Ow.mapA f)).set id o').length ρ' s' i x
  rw[Z];rcases xe i x E with⟨rfl,rfl⟩ | ⟨P,y,N,rfl⟩
  .exact xi
  .have xl:=h.hp i y N
   cases y with
   |dead=>trivial
   |var T cells=>
    obtain⟨b,Q,A,B,L,V,m,z,d⟩:=xl;obtain⟨r,e4⟩:=X i _ P N b (show Dg (ρ i)=some b by rw[A];rfl);refine⟨b,Q,(xc i P).trans A,B,r.trans L,by simpa using V,m,λk C=>z k ((e4 k).1 C),λk U C=>?_⟩;rw[List.getElem?_map]at C
    cases xh:cells[k]? with
    |none=>rw[xh]at C;cases C
    |some xn=>
     rw[xh]at C;cases C;obtain⟨u,g,h9,xa⟩:=d k xn xh;exact⟨u,g,h9,S _ _ xa⟩
   |row T R Y=>
    have:=xl.keep I (X i _ P N);unfold OwR at this;show OwR 0 σ.hp.length ρ' s' i (.row T R Y);unfold OwR;rw[xc i P];exact this
   |obj O=>
    have:=xl.keep I (X i _ P N);show O.rel s' (ρ' i);rw[xc i P];exact this
   |pin l=>
    intro p G;obtain⟨q,w,rfl⟩:=List.mem_map.1 G;exact S _ _ (xl q w)
 .rcases xe i x E with⟨rfl,rfl⟩ | ⟨P,x0,hx0,rfl⟩<;>rcases xe j y N with⟨rfl,rfl⟩ | ⟨hne',y0,hy0,rfl⟩
  .exact xd rfl
  .obtain ⟨c,W⟩:=xo j _ hne' hy0 b (xk j _ hne' hy0 b xf)
   rcases xm b xj with A | A
   .exact W A
   .omega
  .obtain ⟨c,W⟩:=xo i _ P hx0 b (xk i _ P hx0 b xj)
   rcases xm b xf with A | A
   .exact W A
   .omega
  .exact h.sep i j x0 y0 xd hx0 hy0 b (xk i _ P hx0 b xj) (xk j _ hne' hy0 b xf)
 .rcases xe i x E with⟨rfl,rfl⟩ | ⟨P,x0,hx0,rfl⟩
  .rcases xm b F with A | A
   .exact h.own _ o b M A
   .exact .inr (Nat.le_trans h.le.size A)
  .exact h.own i x0 b hx0 (xk i _ P hx0 b F)
end
theorem PF(l:List (Nat×AV)):(l.map λp=>(p.1,(λx=>x) p.2))=l:=by simp
theorem Kl:∀l:List Ow,l.map (Ow.mapA λx=>x)=l
 |[]=>rfl
 |o::l=>by rw[List.map_cons,Kl l];cases o<;>simp[Ow.mapA]
def One(G:List Ow)(U:AV):Prop:=∀base W s v,HpOk base W s G->AVr G.length W s U v->v.oneCell'=true
theorem Fj(h:z.oneCell'=true):One H (.d (ex z)):=λ_ _ _ v _ q=>by have:v=z:=q;rw[this];exact h
theorem Ev{T k:Nat}:One H (.d (slD T k vl)):=λ_ _ _ v _ ⟨A,c,q,_⟩=>by rw[q];rfl
theorem One.own{hp:List Ow}{i T sz:Nat}(h:hp[i]? = some (.row T sz vl)):One hp (.own i):=λbase W s v l ⟨_,q⟩=>by
 obtain⟨Z,⟨_,B⟩,_⟩:=l i _ h;rcases B with⟨c,_⟩ | ⟨g,cap,cur,c,_⟩
 .rw [q,c];rfl
 .rw [q,c];rfl
theorem A2n{p:Addr}{b:Nat}(h:Ty (w.setCell p z) b t):Ty w b t:=by
 obtain⟨a,K,h⟩:=h;by_cases F:b=p.block
 .simp only[World.setCell,Array.getElem?_modify,F,if_true]at h
  cases A:w.heap[p.block]? with
  |none=>rw[A]at h;cases h
  |some o=>
   rw[A]at h
   cases o with
   |cells c e f=>
    simp at h;exact⟨c,f,by rw[F,A];rw[h.2.1]⟩
   |_=>simp at h
 .rw [Below.heap_setCell _ _ _ _ F]at h
  exact⟨a,K,h⟩
theorem Lq{s s':GS}(h:s.Ok)(j:∀b k,s'.S b k->s.S b k)(A:s.w.heap.size<=s'.w.heap.size)(y:∀b k,s.S b k->s'.S b k)(J:∀b,Ty s'.w b 335->Ty s.w b 335):s'.Ok:=
 ⟨λb k F=>Nat.lt_of_lt_of_le (h.lt b k (j b k F)) A,λb k F=>y b k (h.safe b k (J b F))⟩
section
variable {P:Program} {s0:An} {n:Nat} {ops:Array Oper} {Q:Exit->AS->Prop} {rest:List Oper} {o:Oper} {σ:AS}
theorem QR{d:TypeDesc}{b id off:Nat}(Y:o.op=.store t x y)(Z:o.guard=none)(xl:o.dst=none)(F:σ.arg x=.ptr id off)(O:σ.arg y=h)(l:σ.hp[id]? = some (.var U u))(L:Tab P t d 1 b z)(B:One σ.hp h)(xm:off<u.length)(A:AWl P s0 n ops Q rest { fr:=σ.fr,hp:=σ.hp.set id (.var U (u.set off h)) }):AWl P s0 n ops Q (o::rest) σ:=by
 refine AWl.step Z λs W a S K hK=>?_;have xk:=S.arg x;have xi:=S.arg y;rw[F]at xk;rw[O]at xi;obtain⟨xb,g,xn,R⟩:=xk;obtain⟨g',N,C,M,V,m,X,f,i⟩:=S.hp id _ l;rw[xn]at C;cases C;have xg:=B _ _ _ _ S.hp xi;have j:s.w.cell? ⟨g,off,none⟩=some (N[off]'(ZbK)):=(CL V).trans (Array.getElem?_eq_getElem _);have xd:s.w.frozen? ⟨g,off,none⟩=false:=Blk.frozen V off;have xj:(a.eval y).cells=#[a.eval y]:=by cases q:a.eval y<;>first | rfl | (rw[q]at xg;cases xg)
 have T:(execOp a.eval o).run P s.w=.ok .skip (s.w.setCell ⟨g,off,none⟩ (a.eval y)):=by
  have w:(store ⟨g,off,none⟩ (a.eval y)).run P s.w=.ok () (s.w.setCell ⟨g,off,none⟩ (a.eval y)):=by
   cases q:a.eval y<;>first | (rw[q]at xg;cases xg;done) | simp[store,Sem.run,j,xd]
  simp[execOp,Y,R,Instr.storeAt,Instr.sureAddr,storeVar,xj,L.run_size,storeCells,Addr.add_lit,w]
 unfold Oper.wp;rw[T];have xe:∀b,b≠g->(s.w.setCell ⟨g,off,none⟩ (a.eval y)).heap[b]? = s.w.heap[b]?:=λb G=>Below.heap_setCell _ _ _ _ G;have xf:(s.w.setCell ⟨g,off,none⟩ (a.eval y)).heap[g]? = some (.cells (N.setIfInBounds off (a.eval y)) U (0,0)):=Blk.set V off _;have H:GS.Ok { s with w:=s.w.setCell ⟨g,off,none⟩ (a.eval y) }:=Lq S.ok (λ_ _ A=>A) (by show _<=(s.w.setCell _ _).heap.size;simp[World.setCell]) (λ_ _ A=>A) λb G=>A2n G
 have I : GS.Chg s { s with w := s.w.setCell ⟨g, off, none⟩ (a.eval y) } := ⟨by show _ ≤ (s.w.setCell _ _).heap.size; simp [World.setCell], fun _ _ A => A, fun b c t p G => by
  by_cases e:b=g
  .subst e
   rw[V]at G;cases G;exact⟨_,_,xf,λk E=>absurd E (f k)⟩
  .exact ⟨c,p,(xe b e).trans G,λ_ _=>rfl⟩⟩
 have xh := S.upd (s' := { s with w := s.w.setCell ⟨g, off, none⟩ (a.eval y) }) (ρ' := W) (f := fun x => x) (o' := .var U (u.set off h)) (S.le.turn (S.own id _ g l (show Dg (W id) = some g by rw [xn]; rfl)) rfl rfl rfl (fun b _ G => ⟨xe b G, fun _ A => A⟩) I (fun _ _ => rfl) fun _ => H) H I l (fun b _ G => ⟨xe b fun e => G (show Dg (W id) = some b by rw [xn, e]; rfl), fun _ => Iff.rfl⟩) (fun _ _ => rfl)
  ⟨g, _, xn, M, xf, by simpa using m, X, f, fun k xo E => by
   rw[List.getElem?_set]at E;split at E
   .rename_i e
    subst e;obtain rfl:xo=h:=by first | exact(Option.some.inj E).symm | (rw[if_pos xm]at E;exact(Option.some.inj E).symm)
    exact⟨_,by simp[m,xm],xg,xi.chg I⟩
   .rename_i e
    obtain⟨J,r,xa,xc⟩:=i k xo E;exact⟨J,by rw[Array.getElem?_setIfInBounds_ne e];exact r,xa,xc.chg I⟩⟩ (λb G=>.inl G) λh v A=>A.chg I
 rw[PF,Kl]at xh;exact hK _ _ _ A (by rw[xl];exact⟨_,W,rfl,xh⟩)
def II(cells:List AV)(off:Nat)(R:List AV):List AV:=cells.take off++(R++cells.drop (off+R.length))
theorem Wv{off:Nat}(h:off+up.length<=u.length)(k:Nat):(II u off up)[k]? = if off<=k/\k<off+up.length then up[k-off]? else u[k]?:=by
 unfold II;rw[List.getElem?_append];have A:(u.take off).length=off:=Zhz
 rw[A];split
 .rename_i B
  rw[if_neg ZbK,List.getElem?_take,if_pos B]
 .rename_i p
  rw[List.getElem?_append];split
  .rename_i B
   rw[if_pos ZbK]
  .rename_i N
   rw[if_neg ZbK,List.getElem?_drop];exact Zgm
theorem QQ{d:TypeDesc}{b id off m:Nat}(l:o.op=.store t x y)(r:o.guard=none)(xr:o.dst=none)(E:σ.arg x=.ptr id off)(O:σ.arg y=.d (AJ c))(hh:σ.hp[id]? = some (.var U u))(J:Tab P t d m b z)(Y:c.length=m)(xt:off+m<=u.length)(h:AWl P s0 n ops Q rest { fr:=σ.fr,hp:=σ.hp.set id (.var U (II u off (c.map .d))) }):AWl P s0 n ops Q (o::rest) σ:=by
 refine AWl.step r λs N a f K hK=>?_;have xq:=f.arg x;have xp:=f.arg y;rw[E]at xq;rw[O]at xp;obtain⟨xe,g,xv,S⟩:=xq;obtain⟨g',R,B,L,V,X,i,w,h8⟩:=f.hp id _ hh;rw[xv]at B;cases B;obtain⟨p,Z,xm,xs⟩:=xp
 have xy:∀v∈p.toList,v.oneCell'=true:=λv q=>by
  obtain⟨k,C,rfl⟩:=List.getElem_of_mem q;simp at C;obtain⟨G,h9,xb,_⟩:=xs k ZbK;rw[Array.getElem?_eq_getElem C]at h9;cases h9;simpa using xb
 have xl:p.toList.length=m:=by simp[xm,Y]
 have xk:=run_storeCells_at P g off U p.toList 0 R s.w V ZbK xy;simp only[Nat.add_zero]at xk;obtain⟨W,hW⟩:∃W,W=s.w.setRow g (R.toList.take off++p.toList++R.toList.drop (off+p.toList.length)).toArray:=⟨_,rfl⟩;rw[<-hW]at xk
 have xc:(execOp a.eval o).run P s.w=.ok .skip W:=by
  simp[execOp,l,S,Z,Instr.storeAt,Instr.sureAddr,storeVar,Value.cells,xm,Y,J.run_size,xk]
 unfold Oper.wp;rw[xc];have xi:∀b,b≠g->W.heap[b]? = s.w.heap[b]?:=λb F=>by rw[hW];exact setRow_other s.w g b _ (λe=>F e)
 have xj:W.heap[g]? = some (.cells (R.toList.take off++p.toList++R.toList.drop (off+p.toList.length)).toArray U (0,0)):=by rw[hW];exact setRow_heap s.w g R _ U _ V
 have T:W.heap.size=s.w.heap.size:=by rw[hW];simp[World.setRow]
 have H : GS.Ok { s with w := W } := Lq f.ok (fun _ _ h => h) (by show _ ≤ W.heap.size; omega) (fun _ _ h => h) fun b ⟨A, fz, F⟩ => by
  by_cases e:b=g
  .subst e
   have F:W.heap[b]? = _:=F;rw[xj]at F;cases F;exact absurd rfl i
  .exact ⟨A,fz,(xi b e).symm.trans F⟩
 have I : GS.Chg s { s with w := W } := ⟨by show _ ≤ W.heap.size; omega, fun _ _ h => h, fun b A t fz F => by
  by_cases e:b=g
  .subst e
   rw[V]at F;cases F;exact⟨_,_,xj,λk C=>absurd C (w k)⟩
  .exact ⟨A,fz,(xi b e).trans F,λ_ _=>rfl⟩⟩
 have xw:off+(c.map AV.d).length<=u.length:=Zhz
 have xo := f.upd (s' := { s with w := W }) (ρ' := N) (f := fun x => x) (o' := .var U (II u off (c.map .d))) (f.le.turn (f.own id _ g hh (show Dg (N id) = some g by rw [xv]; rfl)) (by rw [hW]; rfl) (by rw [hW]; rfl) (by rw [hW]; rfl) (fun b _ F => ⟨xi b F, fun _ h => h⟩) I (fun _ _ => rfl) fun _ => H) H I hh (fun b _ F => ⟨xi b fun e => F (show Dg (N id) = some b by rw [xv, e]; rfl), fun _ => Iff.rfl⟩) (fun _ _ => rfl)
  ⟨g, _, xv, L, xj, by simp [II]; omega, i, w, fun k xx C => by
   rw[Wv xw]at C
   have xg:(R.toList.take off++p.toList++R.toList.drop (off+p.toList.length)).toArray[k]? = if off<=k/\k<off+m then p[k-off]? else R[k]?:=by
    rw[List.getElem?_toArray,List.append_assoc,List.getElem?_append];have xa:(R.toList.take off).length=off:=Zhz
    rw[xa];split
    .rename_i M
     rw[if_neg ZbK,List.getElem?_take,if_pos M];simp
    .rename_i xh
     rw[List.getElem?_append];split
     .rename_i M
      rw[if_pos ZbK];simp
     .rename_i xz
      rw[if_neg ZbK,List.getElem?_drop];simp;exact Zgm
   rw[xg];rw[List.length_map,Y]at C;split at C
   .rename_i xn
    rw[if_pos xn];rw[List.getElem?_map]at C
    cases xu:c[k-off]? with
    |none=>rw[xu]at C;cases C
    |some x=>
     rw[xu]at C;cases C;obtain⟨G,h9,xb,xd⟩:=xs (k-off) ZbK;refine⟨G,h9,xb,?_⟩;have:Dd c (k-off)=x:=by simp[Dd,xu]
     rw[this]at xd;exact x.st xd I
   .rename_i xn
    rw[if_neg xn];obtain⟨G,xb,xd,xf⟩:=h8 k xx C;exact⟨G,xb,xd,xf.chg I⟩⟩ (λb F=>.inl F) λj v h=>h.chg I
 rw[PF,Kl]at xo;exact hK _ _ _ h (by rw[xr];exact⟨_,N,rfl,xo⟩)
end
theorem Sc{s0:An}(xa:GS.LeX s0.mine s0.g s)(H:s.Ok){t ty T R bytes:Nat}{d:TypeDesc}(J:P.underlying t=some (.slice T))(n:Tab P T d R bytes z)(xm:z.cells.size=R)(xn:T≠335)(N:0<R)
 {l:List Value} (xk:s.w.ownsRow 0 T R v k l) (xE:∀b,Dg v=some b->s0.mine b\/s0.g.w.heap.size<=b) (p:∀b,Dg v=some b->∀A,s.S b A↔A<k*R)
  (b o m c:Nat) (xb:List Value) (K:xb.length=m*R) (X:0<m) (xF:∀j u,xb[j]? = some u->s.w.cell? ⟨b,o+j,none⟩=some u) (B:∀u∈xb,u.oneCell'=true) (xd:(k+m)*bytes<=140737488355328) (xl:k+m<=4611686018427387904) :
  ∃(f:Value) (O:GS),(Builtin.append_ #[t,t] ty #[v,.slice (some ⟨b,o,none⟩) m c]).run P s.w=.ok f O.w/\GS.LeX s0.mine s0.g O/\O.Ok/\GS.Chg s O/\O.w.ownsRow 0 T R f (k+m) (l++xb)/\(∀b,Dg f=some b->∀A,O.S b A↔A<(k+m)*R) /\
   (∀b,b<s.w.heap.size->Dg v≠some b->O.w.heap[b]? = s.w.heap[b]? /\ ∀A,O.S b A↔s.S b A)/\(∀b,Dg f=some b->Dg v=some b\/s.w.heap.size<=b):=by
 obtain⟨i,M,Z,xp,xr⟩:=n.info;subst xp;subst xr;have xy:∀j u,xb[j]? = some u->s.w.cell? ((⟨b,o,none⟩:Addr).add j)=some u:=λj u L=>by rw[Addr.add_lit];exact xF j u L
 have w:(l++xb).length=(k+m)*i.size:=by rw[List.length_append,xk.1,K,Nat.add_mul]
 have fresh:∀(cap:Nat) (arr:Array Value),k+m<=cap->cap<=maxLen->arr.size=cap*i.size->arr.toList.take ((k+m)*i.size)=l++xb->∃O:GS,O.w=s.w.drew.alloc (.cells arr T)/\GS.LeX s0.mine s0.g O/\O.Ok/\GS.Chg s O/\O.w.ownsRow 0 T i.size (.slice (some ⟨s.w.heap.size,0,none⟩) (k+m) cap) (k+m) (l++xb) /\
   (∀A,O.S s.w.heap.size A↔A<(k+m)*i.size)/\(∀b,b<s.w.heap.size->O.w.heap[b]? = s.w.heap[b]? /\ ∀A,O.S b A↔s.S b A):=by
  intro cap arr xj xg xv xB;have S:Ext s.w (s.w.drew.alloc (.cells arr T)):=(Ext.refl _).drew.alloc _;have xh:(s.w.drew.alloc (.cells arr T)).heap[s.w.heap.size]? = some (.cells arr T (0,0)):=heap_alloc_new s.w.drew _;have r:(s.w.drew.alloc (.cells arr T)).heap.size=s.w.heap.size+1:=Array.size_push ..;have Q:∀A,¬s.S s.w.heap.size A:=λA C=>absurd (H.lt _ _ C) (Nat.lt_irrefl _);have xu:∀b A,b<s.w.heap.size->((s.S b A\/(b=s.w.heap.size/\A<(k+m)*i.size))↔s.S b A):=λb A F=>⟨λh=>h.elim id λh=>absurd F ZbK,.inl⟩
  have xc:GS.Ok ⟨λb A=>s.S b A\/(b=s.w.heap.size/\A<(k+m)*i.size),s.tag,s.w.drew.alloc (.cells arr T)⟩:=⟨λb A F=>by
    show b<(s.w.drew.alloc (.cells arr T)).heap.size;rcases F with F | ⟨F,_⟩
    .have:=H.lt _ _ F;omega
    .omega,λb A ⟨a,fz,F⟩=>by
    have F:(s.w.drew.alloc (.cells arr T)).heap[b]? = _:=F;have xo:=Bm F;by_cases e:b=s.w.heap.size
    .subst e
     rw[xh]at F;cases F;exact absurd rfl xn
    .exact .inl (H.safe b A ⟨a,fz,(S.block ZbK).symm.trans F⟩)⟩
  refine⟨⟨λb A=>s.S b A\/(b=s.w.heap.size/\A<(k+m)*i.size),s.tag,s.w.drew.alloc (.cells arr T)⟩,rfl,?_,xc,?_,?_,λA=>⟨λh=>h.elim (λh=>absurd h (Q A)) λh=>h.2,λh=>.inr ⟨rfl,h⟩⟩,λb F=>⟨S.block F,λA=>xu b A F⟩⟩
  .refine xa.trans ⟨S,λ_ _ h=>.inl h,λb A F h=>(xu b A F).1 h,λ_ _=>rfl,λ_=>xc⟩
  .exact ⟨S.size,λ_ _ h=>.inl h,λb a T' fz F=>⟨a,fz,(S.block (Bm F)).trans F,λ_ _=>rfl⟩⟩
  .exact ⟨w,.inr ⟨_,cap,arr,rfl,Nat.zero_le _,xh,xj,xg,xv,xB⟩⟩
 have xx:k+m<=maxLen:=by simp only[maxLen];omega
 have xA:∀xq,xq<k+m->∃O:GS,O.w=s.w.drew.alloc (.cells (l.toArray++xb.toArray++Builtin.zeroCells z.cells (grownCap s.w (k+m) xq T-(k+m))) T)/\GS.LeX s0.mine s0.g O/\O.Ok/\GS.Chg s O/\O.w.ownsRow 0 T i.size (.slice (some ⟨s.w.heap.size,0,none⟩) (k+m) (grownCap s.w (k+m) xq T)) (k+m) (l++xb) /\
   (∀A,O.S s.w.heap.size A↔A<(k+m)*i.size)/\(∀b,b<s.w.heap.size->O.w.heap[b]? = s.w.heap[b]? /\ ∀A,O.S b A↔s.S b A):=by
  intro xq V;have xe:=grownCap_ge s.w (k+m) xq T;have xt:grownCap s.w (k+m) xq T<=maxLen:=grownCap_le_maxLen s.w (k+m) xq T xx;refine fresh _ _ xe xt ?_ ?_
  .simp only[Array.size_append,List.size_toArray,size_zeroCells,xm,xk.1,K,<-Nat.add_mul]
   exact Zgm
  .simp only[Array.toList_append,List.append_assoc]
   rw[<-List.append_assoc,<-w];exact List.take_left
 rcases xk.2 with⟨rfl,rfl⟩ | ⟨g,cap,xi,rfl,hbg,hg,hnc,xt,hcs,htake⟩
 .have E:l=[]:=List.eq_nil_of_length_eq_zero (by simpa using xk.1)
  subst E;have G:=run_append_nil (P:=P) s.w t ty T i z J M Z ⟨b,o,none⟩ m c xb K xy X ZbK (by have F:=xd;simp only[Nat.zero_add]at F;omega);obtain⟨O,I,Y,y,e4,e5,e6,e7⟩:=xA 0 ZbK;simp only[Nat.zero_add,List.nil_append,Array.empty_append]at I e5 e6 ⊢;rw[<-I]at G;exact⟨_,O,G,Y,y,e4,e5,λb F A=>by cases F;exact e6 A,λb F _=>e7 b F,λb F=>by cases F;exact .inr (Nat.le_refl _)⟩
 .by_cases xz:k+m<=cap
  .have xC:k*i.size+xb.length<=xi.size:=by rw [K, hcs, <-Nat.add_mul]; exact Nat.mul_le_mul_right _ xz
   have G:=run_append_room (P:=P) s.w t ty T i J M g k cap xi hg ⟨b,o,none⟩ m c xb K xy B xz xC;obtain⟨W,x⟩:∃W,W=s.w.setRow g (xi.toList.take (k*i.size)++xb++xi.toList.drop (k*i.size+xb.length)).toArray:=⟨_,rfl⟩;rw[<-x]at G;have xf:∀b,b≠g->W.heap[b]? = s.w.heap[b]?:=λb F=>by rw[x];exact setRow_other s.w g b _ (λe=>F e)
   have xh:W.heap[g]? = some (.cells (xi.toList.take (k*i.size)++xb++xi.toList.drop (k*i.size+xb.length)).toArray T (0,0)):=by rw[x];exact setRow_heap s.w g xi _ T _ hg
   have r:W.heap.size=s.w.heap.size:=by rw[x];simp[World.setRow]
   have xD:=Bm hg;have xH:∀A,s.S g A↔A<k*i.size:=p g rfl;have xu:∀b A,b≠g->((s.S b A\/(b=g/\A<(k+m)*i.size))↔s.S b A):=λb A F=>⟨λh=>h.elim id λh=>absurd h.1 F,.inl⟩
   have xc:GS.Ok ⟨λb A=>s.S b A\/(b=g/\A<(k+m)*i.size),s.tag,W⟩:=⟨λb A F=>by
     show b<W.heap.size;rcases F with F | ⟨F,_⟩
     .have:=H.lt _ _ F;omega
     .omega,λb A ⟨a,fz,F⟩=>by
     have F:W.heap[b]? = _:=F;by_cases e:b=g
     .subst e
      rw[xh]at F;cases F;exact absurd rfl xn
     .exact .inl (H.safe b A ⟨a,fz,(xf b e).symm.trans F⟩)⟩
   have xw:∀A,A<k*i.size->(xi.toList.take (k*i.size)++xb++xi.toList.drop (k*i.size+xb.length)).toArray[A]? = xi[A]?:=λA C=>by
    rw[List.getElem?_toArray,List.append_assoc,List.getElem?_append_left Zhz,List.getElem?_take,if_pos C];simp
   have xI : GS.Chg s ⟨fun b A => s.S b A ∨ (b = g ∧ A < (k + m) * i.size), s.tag, W⟩ := ⟨by show _ ≤ W.heap.size; omega, fun _ _ h => .inl h, fun b a T' fz F => by
    by_cases e:b=g
    .subst e
     rw[hg]at F;cases F;exact⟨_,_,xh,λA C=>xw A ((xH A).1 C)⟩
    .exact ⟨a,fz,(xf b e).trans F,λ_ _=>rfl⟩⟩
   refine⟨_,⟨λb A=>s.S b A\/(b=g/\A<(k+m)*i.size),s.tag,W⟩,G,xa.turn (xE g rfl) (by show W.os=_;rw[x];rfl) (by show W.tape=_;rw[x];rfl) (by show W.output=_;rw[x];rfl) (λb _ F=>⟨xf b F,λA h=>(xu b A F).1 h⟩) xI (λ_ _=>rfl) λ_=>xc,xc,xI,?_,?_,λb F q=>?_,λb F=>.inl F⟩
   .refine ⟨w,.inr ⟨g,cap,_,rfl,hbg,xh,xz,xt,?_,?_⟩⟩
    .simp only[List.size_toArray,List.length_append,List.length_take,List.length_drop,Array.length_toList]
     omega
    .rw [htake,<-w]
     exact List.take_left
   .intro b F A
    cases F;constructor
    .rintro (h | h)
     .have:=(xH A).1 h
      have:k*i.size<=(k+m)*i.size:=Nat.mul_le_mul_right _ ZbK;omega
     .exact h.2
    .intro h
     exact .inr ⟨rfl,h⟩
   .have U:b≠g:=λe=>q (by rw [e]; rfl)
    exact⟨xf b U,λA=>xu b A U⟩
  .have xG:∀j u,l[j]? = some u->s.w.cell? ((⟨g,0,none⟩:Addr).add j)=some u:=xk.cells (g:=g) rfl
   have G:=run_append_grow (P:=P) s.w t ty T i z J M Z ⟨g,0,none⟩ k cap l xk.1 xG ⟨b,o,none⟩ m c xb K xy ZbK ZbK (growslice_fits ZbK xd);obtain⟨O,I,Y,y,e4,e5,e6,e7⟩:=xA cap ZbK;rw[<-I]at G;exact⟨_,O,G,Y,y,e4,e5,λb F A=>by cases F;exact e6 A,λb F _=>e7 b F,λb F=>by cases F;exact .inr (Nat.le_refl _)⟩
def down(id:Nat)(x:D):AV->AV
 |.own j=>bif Nat.beq j id then .d x else .own j
 |.fn f N=>bif N.contains id then .d Cs else .fn f N
 |av=>av
theorem Js(g R:List (List D))(k:Nat):(g++R).getD k []=if k<g.length then g.getD k []else R.getD (k-g.length) []:=by
 rw[List.getD_eq_getElem?_getD,List.getElem?_append];split<;>simp[List.getD_eq_getElem?_getD]
section
variable {P:Program} {s0:An} {n:Nat} {ops:Array Oper} {Q:Exit->AS->Prop} {rest:List Oper} {o:Oper} {σ:AS}
def AS.appd(σ:AS)(x:Option Tmp)(id T k:Nat)(y R:List (List D)):AS:=
 AS.put { fr:=σ.fr.map λp=>(p.1,down id (slD T k y) p.2),hp:=(σ.hp.map (Ow.mapA (down id (slD T k y)))).set id (.row T k (y++R)) } x (.own id)
theorem Ou{T G:Nat}{b o:Nat}(h:∀k,k<vl.length->(vl.getD k []).length=G/\Lies s b (o+k*G) T (vl.getD k [])):∃H:List Value,H.length=vl.length*G/\(∀j u,H[j]? = some u->s.w.cell? ⟨b,o+j,none⟩=some u)/\(∀u∈H,u.oneCell'=true) /\
  ∀k j,k<vl.length->j<G->∃u,H[k*G+j]? = some u/\u.oneCell'=true/\(Dd (vl.getD k []) j).rel s u:=by
 have key:∀i,∃u,i<vl.length*G->s.w.cell? ⟨b,o+i,none⟩=some u/\u.oneCell'=true/\(Dd (vl.getD (i/G) []) (i%G)).rel s u:=λi=>by
  by_cases M:i<vl.length*G
  .have J:0<G:=Nat.pos_of_ne_zero λe=>by rw [e] at M;simp at M
   have C:i/G<vl.length:=(Nat.div_lt_iff_lt_mul J).2 M;have F:i%G<G:=Nat.mod_lt _ J;obtain⟨A,B⟩:=h (i/G) C;obtain⟨u,L,V,m⟩:=B.cell (k:=i%G) ZbK;refine⟨u,λ_=>⟨?_,V,m⟩⟩;rw[<-L];have:=Nat.div_add_mod i G;rw[Nat.mul_comm]at this;rw[Nat.add_assoc,this]
  .exact ⟨undef,λh=>absurd h M⟩
 obtain⟨f,p⟩:∃f:Nat->Value,∀i,i<vl.length*G->s.w.cell? ⟨b,o+i,none⟩=some (f i)/\(f i).oneCell'=true/\(Dd (vl.getD (i/G) []) (i%G)).rel s (f i):=⟨λi=>(key i).choose,λi M=>(key i).choose_spec M⟩;refine⟨(List.range (vl.length*G)).map f,by simp,λj u F=>?_,λu I=>?_,λk j C F=>?_⟩
 .rw [List.getElem?_map]at F
  by_cases K:j<vl.length*G
  .rw [List.getElem?_range K]at F
   cases F;exact(p j K).1
  .rw [List.getElem?_eq_none (by simp; omega)] at F
   cases F
 .obtain ⟨i,M,rfl⟩:=List.mem_map.1 I
  exact(p i (List.mem_range.1 M)).2.1
 .have E:k*G+j<vl.length*G:=by
   have:(k+1)*G<=vl.length*G:=Nat.mul_le_mul_right G C;exact Zgn
  refine⟨f (k*G+j),by rw[List.getElem?_map,List.getElem?_range E];rfl,(p _ E).2.1,?_⟩;have:=(p _ E).2.2
  have c:(k*G+j)/G=k:=by
   rw[Nat.mul_comm,Nat.mul_add_div ZbK,Nat.div_eq_of_lt F];omega
  have v:(k*G+j)%G=j:=by
   rw[Nat.mul_comm,Nat.mul_add_mod,Nat.mod_eq_of_lt F]
  rwa [c,v]at this
theorem QS{t T T2 sz bytes id m b:Nat}{d:TypeDesc}(xb:o.op=.call { callee:=.builtin .append,args:=#[x,y],argTypes:=#[t,t] })(hg:o.guard=none)(G:σ.arg x=.own id)(V:GG σ.hp (σ.arg y)=some (slD T2 sz uf))(hh:σ.hp[id]? = some (.row T sz vl))(L:Tab P t (.slice T) m b v)(hT:Tab P T d sz bytes z)(xn:z.cells.size=sz)(Z:TU o.dst n=true)(xj:(vl.length+uf.length)*bytes<=140737488355328)(xm:vl.length+uf.length<=4611686018427387904)(h:AWl P s0 n ops Q rest (σ.appd o.dst id T sz vl uf)):AWl P s0 n ops Q (o::rest) σ:=by
 refine AWl.step hg λs Y a xa K hK=>?_;have xp:=xa.arg x;rw[G]at xp;obtain⟨xg,q⟩:=xp;obtain⟨xs,E,O,X,h5,h6⟩:=xa.hp id _ hh;have xt:(slD T sz vl).rel s (Y id):=DN (av:=.own id) xa.hp ⟨xg,rfl⟩ (by simp[GG,hh]);obtain⟨A,c,e2,h7,h8,h9⟩:=DN xa.hp (xa.arg y) V
 have xx:∀(v':Value) (U:GS) (xv:List Value),(execOp a.eval o).run P s.w=.ok (.value v') U.w->GS.LeX s0.mine s0.g U->U.Ok->GS.Chg s U->U.w.ownsRow 0 T sz v' (vl.length+uf.length) xv->(∀b,Dg v'=some b->∀k,U.S b k↔k<(vl.length+uf.length)*sz) ->
   (∀b,b<s.w.heap.size->Dg (Y id)≠some b->U.w.heap[b]? = s.w.heap[b]? /\ ∀k,U.S b k↔s.S b k)->(∀b,Dg v'=some b->Dg (Y id)=some b\/s.w.heap.size<=b) ->
   (∀k,k<(vl++uf).length->((vl++uf).getD k []).length=sz/\∀j,j<sz->∃u,xv[k*sz+j]? = some u/\u.oneCell'=true/\(Dd ((vl++uf).getD k []) j).rel U u)->o.wp P a s.w K (FE s0 n Q):=by
  intro v' U xv xe q1 q2 q3 q4 q5 q6 q7 q8;unfold Oper.wp;rw[xe];have M:(vl++uf).length=vl.length+uf.length:=List.length_append
  have xl:=xa.upd (s':=U) (o':=.row T sz (vl++uf)) (ρ':=λi=>if i=id then v' else Y i) (f:=down id (slD T sz vl)) q1 q2 q3 hh q6 (λj r=>if_neg r)
   ⟨xv, by simp only [if_pos]; rw [M]; exact q4, O, X, fun b I k => by simp only [if_pos] at I; rw [M]; exact q5 b I k, q8⟩ (fun b I => by replace I : Dg (if id = id then v' else Y id) = some b := I; rw [if_pos rfl] at I; exact q7 b I) fun av J xh => by
    cases av with
    |d x=>exact x.st xh q3
    |ptr i off=>
     obtain⟨p1,bb,p2,p3⟩:=xh;refine⟨p1,bb,?_,p3⟩;show(if i=id then v' else Y i)=_;by_cases e:i=id
     .exfalso
      subst e;rcases E.2 with⟨w1,_⟩ | ⟨g,cap,cur,w1,_⟩<;>rw[w1]at p2<;>cases p2
     .rw [if_neg e];exact p2
    |own j=>
     obtain⟨p1,p2⟩:=xh;show AVr σ.hp.length _ U (bif Nat.beq j id then .d (slD T sz vl)else .own j) J
     cases I:Nat.beq j id with
     |true=>
      have e:j=id:=Nat.eq_of_beq_eq_true I;subst e;rw[p2];exact(slD T sz vl).st xt q3
     |false=>
      have e:j≠id:=Nat.ne_of_beq_eq_false I;exact⟨p1,p2.trans (if_neg e).symm⟩
    |fn f xc=>
     obtain⟨p1,p2⟩:=xh;show AVr σ.hp.length _ U (bif xc.contains id then .d Cs else .fn f xc) J
     cases I:xc.contains id with
     |true=>trivial
     |false=>
      have H:id∉xc:=λh=>by rw[List.contains_iff_mem.2 h]at I;cases I
      exact⟨p1,by rw[p2,List.map_congr_left λi R=>(if_neg λe=>H (by rw[<-e];exact R):(if i=id then v' else Y i)=Y i)]⟩
  have xi:=xl.put (GS.Le.refl U) (IR Z) (v:=v') (r:=.own id) ⟨by simpa using xg,by simp⟩;exact hK _ _ _ h ⟨U,_,rfl,xi⟩
 have xu:∀v' S,(Builtin.append_ #[t,t] o.type #[Y id,a.eval y]).run P s.w=.ok v' S->(execOp a.eval o).run P s.w=.ok (.value v') S:=λv' S l=>by
  simp only[execOp,xb,resolve,invoke,builtin,Sem.run_bind,Sem.run_pure,Result.andThen_ok,List.map_toArray,List.map_cons,List.map_nil,q,l]
 rcases Nat.eq_zero_or_pos uf.length with w | w
 .obtain rfl:uf=[]:=List.eq_nil_of_length_eq_zero w
  obtain⟨i,R,hz,xo,xq⟩:=hT.info
  have xy:∃B N C,Y id=.slice B N C/\N<=C:=by
   rcases E.2 with⟨w1,_⟩ | ⟨g,cap,cur,w1,_,_,w2,_⟩
   .exact ⟨none,0,0,w1,Nat.le_refl _⟩
   .exact ⟨_,_,_,w1,w2⟩
  obtain⟨B,N,C,w1,w2⟩:=xy
  have l:(Builtin.append_ #[t,t] o.type #[Y id,a.eval y]).run P s.w=.ok (Y id) s.w:=by
   rw[e2,w1]
   cases A with
   |none=>exact run_append_nothing s.w _ _ _ _ i L.und R _ _ _ w2 _ (Src.ofNil s.w L.und c)
   |some ad=>exact run_append_nothing s.w _ _ _ _ i L.und R _ _ _ w2 _ (Src.ofSlice s.w L.und _ _ _ [] ZbV ZbV ZbV)
  refine xx (Y id) s xs (xu _ _ l) xa.le xa.ok (GS.Chg.refl s) Zei (λb I k=>by simpa using h5 b I k) (λb I _=>⟨rfl,λ_=>Iff.rfl⟩) (λb I=>.inl I) λk F=>?_;rw[List.append_nil]at F ⊢;exact⟨(h6 k F).1,(h6 k F).2⟩
 .obtain ⟨g,p,rfl,xd⟩:=h9 w
  obtain⟨xf,n1,n2,n3,n4⟩:=Ou xd;obtain⟨v',U,l,q1,q2,q3,q4,q5,q6,q7⟩:=Sc (P:=P) (ty:=o.type) xa.le xa.ok L.und hT xn O X E (λb I=>xa.own id _ b hh I) h5 g p uf.length c xf n1 w n2 n3 xj xm;refine xx v' U (xs++xf) (xu _ _ (by rw[e2];exact l)) q1 q2 q3 q4 q5 q6 q7 λk F=>?_;rw[List.length_append]at F;rw[Js];have xr:xs.length=vl.length*sz:=E.1;split
  .rename_i W
   refine⟨(h6 k W).1,λj r=>?_⟩;obtain⟨u,r1,xw,r3⟩:=(h6 k W).2 j r;refine⟨u,?_,xw,(Dd _ j).st r3 q3⟩;rw[List.getElem?_append_left]
   .exact r1
   .rw [xr]
    have:(k+1)*sz<=vl.length*sz:=Nat.mul_le_mul_right sz W;exact Zgn
  .rename_i xk
   refine⟨(xd (k-vl.length) ZbK).1,λj r=>?_⟩;obtain⟨u,r1,xw,r3⟩:=n4 (k-vl.length) j ZbK r;refine⟨u,?_,xw,(Dd _ j).st r3 q3⟩;have e3:k*sz=vl.length*sz+(k-vl.length)*sz:=Zhw
   exact ZhQ
theorem SP{ρ:Nat->Value}{a:Act}{T sz cap:Nat}{arr:Array Value}(hst:StI s0 n σ a s ρ)(h:T≠335)(g:0<sz)(I:cap<=maxLen)(H:arr.size=cap*sz){dst:Option Tmp}(Z:TU dst n=true) :
  St s0 n (σ.new dst (.own σ.hp.length) (.row T sz [])) (a.put dst (.slice (some ⟨s.w.heap.size,0,none⟩) 0 cap)) (s.w.alloc (.cells arr T)):=
 ⟨s.mk' arr T 0, _, rfl, hst.new (s.le_mk' arr T 0 h) (IR Z) (u := .slice (some ⟨s.w.heap.size, 0, none⟩) 0 cap) ⟨by omega, by simp⟩
  ⟨[], ⟨by simp, .inr ⟨s.w.heap.size, cap, arr, by simp, Nat.zero_le _, heap_alloc_new s.w _, Nat.zero_le _, I, H, by simp⟩⟩, h, g, fun b F k => by
   simp only[if_pos]at F;cases F;exact⟨λC=>absurd (hst.ok.lt _ _ C) (Nat.lt_irrefl _),λC=>by simp at C⟩,λk C=>by simp at C⟩ λb F=>by cases F;exact Nat.le_refl _⟩
theorem Ye{t T m b k bytes:Nat}{d:TypeDesc}(C:o.op=.buildSlice t 0 #[])(I:o.guard=none)(J:Tab P t (.slice T) m b v)(A:Tab P T d k bytes z)(X:T≠335)(g:0<k)(Z:TU o.dst n=true)(h:AWl P s0 n ops Q rest (σ.new o.dst (.own σ.hp.length) (.row T k []))):AWl P s0 n ops Q (o::rest) σ:=by
 refine AWl.step I λs W a x K E=>?_
 have B:(execOp a.eval o).run P s.w=.ok (.value (.slice (some ⟨s.w.heap.size,0,none⟩) 0 0)) (s.w.alloc (.cells #[] T)):=by
  have i:∀arr,(newRow T arr).run P s.w=.ok ⟨s.w.heap.size,0,none⟩ (s.w.alloc (.cells arr T)):=λ_=>rfl;simp[execOp,C,Instr.buildSlice,run_underlying J.und,A.run_size,Instr.fill,i];exact Zic
 unfold Oper.wp;rw[B];exact E _ _ _ h (SP x X g (by simp[maxLen]) ZbV Z)
theorem A0U{t T m b F bytes:Nat}{d:TypeDesc}(R:o.op=.makeSlice t x y)(S:o.guard=none)(E:σ.arg x=.d (ex (.int .i64 0)))(O:σ.arg y=.d (ex (.int .i64 i)))(J:Tab P t (.slice T) m b v)(V:Tab P T d F bytes z)(q:0<=i)(I:i<=1000000000)(l:bytes<=65536)(r:T≠335)(g:0<F)(Z:TU o.dst n=true)(h:AWl P s0 n ops Q rest (σ.new o.dst (.own σ.hp.length) (.row T F []))):AWl P s0 n ops Q (o::rest) σ:=by
 refine AWl.step S λs W a L K Y=>?_;have c:a.eval x=.int .i64 0:=St.exD E ⟨s,W,rfl,L⟩;have G:a.eval y=.int .i64 i:=St.exD O ⟨s,W,rfl,L⟩;obtain⟨A,M,N,u,w⟩:=V.info;have f:IntKind.i64.wrap 0=0:=rfl;have wc:IntKind.i64.wrap i=i:=IntWalk.i64_in _ ZbK;obtain⟨k,rfl⟩:=Int.eq_ofNat_of_zero_le q;have C:k<=1000000000:=by omega
 have xf:bytes*k<=65536*1000000000:=Nat.mul_le_mul l C
 have xg:((bytes:Int)*(k:Int))<=281474976710656:=by
  have:((bytes*k:Nat):Int)<=((65536*1000000000:Nat):Int):=Int.ofNat_le.2 xf;rw[Int.natCast_mul]at this;omega
 have xb:k*bytes<=roomBytes:=by
  rw[Nat.mul_comm];have:roomBytes=140737488355328:=rfl;omega
 obtain⟨arr,H,X⟩:∃arr:Array Value,arr.size=k*F/\(execOp a.eval o).run P s.w=.ok (.value (.slice (some ⟨s.w.heap.size,0,none⟩) 0 k)) (s.w.alloc (.cells arr T)):=by
  have B:∀arr,(newRow T arr).run P s.w=.ok ⟨s.w.heap.size,0,none⟩ (s.w.alloc (.cells arr T)):=λ_=>rfl;have xd:¬(281474976710656<(bytes:Int)*(k:Int)):=by omega
  have xe:¬(roomBytes<k*bytes):=by omega
  have xc:¬((k:Int)<0):=by omega
  by_cases U:k*F=0
  .refine ⟨(Array.range (k*F)).map (λj=>(#[]:Array Value)[j%0]!), by simp, ?_⟩
   simp[execOp,R,c,G,Instr.makeSlice,run_underlying J.und,asInt,asIntOf,typeInfo,M,w,f,wc,xd,askRoom,xe,V.run_size,U,B,sizeOf,u,xc]
  .refine ⟨(Array.range (k*F)).map (λj=>z.cells[j%z.cells.size]!), by simp, ?_⟩
   have xa:k≠0:=λe=>U (by rw[e,Nat.zero_mul]);have p:F≠0:=by omega
   simp[execOp,R,c,G,Instr.makeSlice,run_underlying J.und,asInt,asIntOf,typeInfo,M,w,f,wc,xd,askRoom,xe,sizeOf,u,xa,p,zeroValue,N,B,xc];exact λh=>absurd h U
 unfold Oper.wp;rw[X];exact Y _ _ _ h (SP L r g Zev H Z)
end
def HE(s:GS)(a:Array Value)(R:List D):Prop:=a.size=R.length/\∀k,k<R.length->∃u,a[k]? = some u/\u.oneCell'=true/\(Dd R k).rel s u
def Rx(R:List D)(off:Nat)(n:List D):List D:=R.take off++(n++R.drop (off+n.length))
theorem Hj{off:Nat}(h:off+vn.length<=c.length):(Rx c off vn).length=c.length:=by simp[Rx];omega
theorem A4Y{off:Nat}(h:off+vn.length<=c.length)(k:Nat):Dd (Rx c off vn) k=if off<=k/\k<off+vn.length then Dd vn (k-off)else Dd c k:=by
 unfold Rx Dd;rw[List.getD_eq_getElem?_getD,List.getElem?_append];have A:(c.take off).length=off:=Zhz
 rw[A];split
 .rename_i Q
  rw[if_neg ZbK,List.getElem?_take,if_pos Q];simp
 .rename_i p
  rw[List.getElem?_append];split
  .rename_i Q
   rw[if_pos ZbK];simp
  .rename_i N
   rw[if_neg ZbK,List.getElem?_drop];simp;congr 2;omega
theorem RR(a:Array Value):∀(l:List (Value×Nat)) (b:Nat) (off:Nat),(∀p∈l,b<=p.2)->(l.map (·.2)).Pairwise (· < ·)->∀k,(l.foldl (λa (p:Value×Nat)=>a.setIfInBounds (off+p.2) p.1) a).size=a.size /\
  ((∀p∈l,off+p.2≠k)->(l.foldl (λa (p:Value×Nat)=>a.setIfInBounds (off+p.2) p.1) a)[k]? = a[k]?)/\(∀p∈l,off+p.2=k->k<a.size->(l.foldl (λa (p:Value×Nat)=>a.setIfInBounds (off+p.2) p.1) a)[k]? = some p.1)
 |[],b,off,_,_,k=>⟨rfl,λ_=>rfl,λp G=>by cases G⟩
 |q::l,b,off,F,G,k=>by
  have r:=List.pairwise_cons.1 G;obtain⟨A,B,L⟩:=RR (a.setIfInBounds (off+q.2) q.1) l (q.2+1) off (λp K=>r.1 p.2 (List.mem_map_of_mem K)) r.2 k;refine⟨by rw[List.foldl_cons,A];simp,λC=>?_,λp U C Q=>?_⟩
  .rw [List.foldl_cons,B λp K=>C p (List.mem_cons_of_mem _ K),Array.getElem?_setIfInBounds_ne (C q List.mem_cons_self)]
  .rw [List.foldl_cons]
   rcases List.mem_cons.1 U with rfl | K
   .rw [B λE I=>by have:p.2<E.2:=r.1 E.2 (List.mem_map_of_mem (f:=λx:Value×Nat=>x.2) I); omega, C]
    simp[Q]
   .exact L p K C (by simpa using Q)
theorem A6S{a F:Array Value}{off:Nat}(h:HE s a c)(q:HE s F vn)(o:off+vn.length<=c.length):HE s (F.zipIdx.foldl (λa (p:Value×Nat)=>a.setIfInBounds (off+p.2) p.1) a) (Rx c off vn):=by
 rw[<-Array.foldl_toList];have E:F.zipIdx.toList=F.toList.zipIdx:=by simp
 rw[E]
 have I:(F.toList.zipIdx.map (·.2)).Pairwise (· < ·):=by
  show(List.map Prod.snd _).Pairwise _;rw[List.zipIdx_map_snd];exact List.pairwise_lt_range'
 have key:=RR a F.toList.zipIdx 0 off (λ_ _=>Nat.zero_le _) I;refine⟨by rw[(key 0).1,Hj o,h.1],λk C=>?_⟩;rw[Hj o]at C;rw[A4Y o];obtain⟨A,B,L⟩:=key k;by_cases y:off<=k/\k<off+vn.length
 .rw [if_pos y]
  obtain⟨u,V,m,z⟩:=q.2 (k-off) ZbK;refine⟨u,?_,m,z⟩;refine L (u,k-off) ?_ (by show off+(k-off)=k;omega) (by rw[h.1];exact C);rw[List.mem_zipIdx_iff_getElem?];simpa using V
 .rw [if_neg y]
  obtain⟨u,V,m,z⟩:=h.2 k C;refine⟨u,?_,m,z⟩;rw[B λp G=>?_,V];rw[List.mem_zipIdx_iff_getElem?]at G;have:=(List.getElem?_eq_some_iff.1 G).1;simp[q.1]at this;omega
def FQ(place:Nat->Option (Nat×Nat))(R:List D):List (Nat×List D)->Option (List D)
 |[]=>some R
 |(i,n)::r=>match place i with
  |some (off,size)=>bif Nat.beq n.length size&&Nat.ble (off+size) R.length then FQ place (Rx R off n) r else none
  |none=>none
def A70(s:GS)(v:Value)(n:List D):Prop:=HE s v.cells n
def XI(s:GS):List (Nat×Value)->List (Nat×List D)->Prop
 |[],[]=>True
 |(i,v)::l,(j,n)::r=>i=j/\A70 s v n/\XI s l r
 |_,_=>False
theorem JI{s:GS}{place:Nat->Option (Nat×Nat)}:∀{l:List (Nat×Value)} {r:List (Nat×List D)} {a:Array Value} {R o:List D},XI s l r->HE s a R->FQ place R r=some o->∃P,Instr.fill place a l=some P/\HE s P o
 |[],[],a,R,o,_,I,p=>by cases p;exact⟨a,rfl,I⟩
 |[],_::_,_,_,_,h,_,_=>h.elim
 |_::_,[],_,_,_,h,_,_=>h.elim
 |(i,v)::l,(j,n)::r,a,R,o,⟨e,G,b⟩,I,p=>by
  subst e;unfold FQ at p
  cases K:place i with
  |none=>rw[K]at p;cases p
  |some q=>
   obtain⟨off,size⟩:=q;rw[K]at p;simp only at p
   cases F:(Nat.beq n.length size&&Nat.ble (off+size) R.length)with
   |false=>rw[F]at p;cases p
   |true=>
    rw[F]at p;simp only[Bool.and_eq_true,Nat.ble_eq]at F;have c:n.length=size:=Nat.eq_of_beq_eq_true F.1;have C:=F.2;have A:v.cells.size=size:=by rw[G.1,c]
    have B:=A6S I G (off:=off) ZbK;obtain⟨P,L,V⟩:=JI b B p;refine⟨P,?_,V⟩;unfold Instr.fill;rw[K];have N:=I.1;simp only;rw[if_neg (by simp only[Bool.or_eq_true,decide_eq_true_eq,ne_eq,not_or,Decidable.not_not];omega)];exact L
def PartsA(G:List Ow)(arg:Operand->AV):List (Nat×Operand)->List (Nat×List D)->Prop
 |[],[]=>True
 |(i,x)::l,(j,n)::r=>i=j/\(arg x=.d (AJ n)\/∃y,GG G (arg x)=some y/\One G (arg x)/\n=[y])/\PartsA G arg l r
 |_,_=>False
theorem PartsA.nil{hp:List Ow}:PartsA hp vz [] []:=trivial
theorem A0F{hp:List Ow}{i:Nat}{r:List (Nat×List D)}(h:vz x=.d (AJ c))(b:PartsA hp vz vX r):PartsA hp vz ((i,x)::vX) ((i,c)::r):=⟨rfl,.inl h,b⟩
theorem PartsA.rel{base:Nat}{ρ:Nat->Value}{s:GS}{hp:List Ow}{arg:Operand->AV}{ev:Operand->Value}(F:HpOk base ρ s hp):∀{l:List (Nat×Operand)} {r:List (Nat×List D)},PartsA hp arg l r->(∀p∈l,AVr hp.length ρ s (arg p.2) (ev p.2))->XI s (l.map λp=>(p.1,ev p.2)) r
 |[],[],_,_=>trivial
 |[],_::_,h,_=>h.elim
 |_::_,[],h,_=>h.elim
 |(i,x)::l,(j,n)::r,⟨A,B,L⟩,h=>by
  refine⟨A,?_,PartsA.rel F L λp hp=>h p (List.mem_cons_of_mem _ hp)⟩;have E:=h (i,x) List.mem_cons_self;rcases B with B | ⟨y,B,h4,rfl⟩
  .have E:AVr hp.length ρ s (arg x) (ev x):=E
   rw[B]at E;obtain⟨a,e,m,z⟩:=E;show HE s (ev x).cells n;rw[e];exact⟨m,z⟩
  .have m:=h4 _ _ _ _ F E
   have z:=DN F E B;show HE s (ev x).cells [y];have:(ev x).cells=#[ev x]:=by cases q:ev x<;>first | rfl | (rw[show ev x=_ from q]at m;cases m)
   rw[this];refine⟨rfl,λk C=>?_⟩;obtain rfl:k=0:=by simp at C;omega
   exact⟨ev x,rfl,m,z⟩
def FieldsT(P:Program):List Field->List (Nat×Nat)->Prop
 |[],[]=>True
 |f::l,p::r=>(∃d b z,Tab P f.type d p.2 b z)/\p.1=f.offset/\FieldsT P l r
 |_,_=>False
theorem FieldsT.nil:FieldsT P [] []:=trivial
theorem FieldsT.cons{f:Field}{l:List Field}{d:TypeDesc}{n b:Nat}{r:List (Nat×Nat)}(h:Tab P f.type d n b z)(A:FieldsT P l r):FieldsT P (f::l) ((f.offset,n)::r):=⟨⟨d,b,z,h⟩,rfl,A⟩
theorem FieldsT.run {P : Program} {w : World} : ∀ {l : List Field} {r : List (Nat × Nat)}, FieldsT P l r → (l.mapM fun f => do pure (f.offset, ← sizeOf f.type) : Sem (List (Nat × Nat))).run P w = .ok r w
 |[],[],_=>by simp
 |[],_::_,h=>h.elim
 |_::_,[],h=>h.elim
 |f::l,(o,n)::r,⟨⟨d,b,z,A⟩,B,L⟩=>by
  have q:=FieldsT.run (w:=w) L;have B:o=f.offset:=B;subst B;simp only[List.mapM_cons,Sem.run_bind,A.run_size,Result.andThen_ok,Sem.run_pure,q]
def Tj(l:List Value):List D:=l.map ex
theorem Sa(h:GP vy.toList=true):HE s vy (Tj vy.toList):=by
 refine⟨by simp[Tj],λk C=>?_⟩;simp[Tj]at C;refine⟨vy[k],Array.getElem?_eq_getElem C,List.all_eq_true.1 h _ ZbV,?_⟩;have:Dd (Tj vy.toList) k=ex vy[k]:=by simp[Dd,Tj,C]
 rw[this];rfl
section
variable {P:Program} {hp:List Ow} {o:Oper} {arg:Operand->AV}
theorem Quiet.build{l:Array Field}{n b:Nat}(I:o.op=.build t vX.toArray)(J:Tab P t (.struct l) n b z)(N:FieldsT P l.toList vE)(A:GP z.cells.toList=true)(C:PartsA hp arg vX uq)(F:FQ (λi=>vE[i]?) (Tj z.cells.toList) uq=some c):Quiet P hp o arg (.d (AJ c)):=by
 refine⟨λbase s W E H M Z h=>?_⟩;have B:=PartsA.rel (ev:=E) Z C λp g=>h p.2 (by rw[I];simp only[Op.operands,List.mem_toArray];exact List.mem_map_of_mem g);obtain⟨K,L,V⟩:=JI B (Sa A) F;refine BO (v:=.agg K) ?_ ⟨GS.Le.refl s,K,rfl,V⟩;have m:=FieldsT.run (w:=s.w) N
 have G : (l.mapM fun f => do pure (f.offset, ← sizeOf f.type) : Sem (Array (Nat × Nat))).run P s.w = .ok vE.toArray s.w := by
  rw[<-Array.toArray_toList (xs:=l),List.mapM_toArray,Sem.run_map,m];rfl
 have d:(λx:Nat=>vE.toArray[x]?)=λi=>vE[i]?:=by funext i;simp
 have u:(vX.toArray.map λp:Nat×Operand=>(p.1,E p.2)).toList=vX.map λp=>(p.1,E p.2):=by simp
 simp only[execOp,I,Instr.build,Sem.run_bind,J.run_zero,Result.andThen_ok,run_underlying J.und,G,d,u,L,Sem.run_pure]
theorem Qy{len n b Y r:Nat}{d:TypeDesc}(G:o.op=.build t vX.toArray)(J:Tab P t (.array len U) n b z)(X:Tab P U d Y r v)(A:GP z.cells.toList=true)(C:PartsA hp arg vX uq)(F:FQ (λi=>some (i*Y,Y)) (Tj z.cells.toList) uq=some c):Quiet P hp o arg (.d (AJ c)):=by
 refine⟨λbase s W E H l Z h=>?_⟩;have B:=PartsA.rel (ev:=E) Z C λp g=>h p.2 (by rw[G];simp only[Op.operands,List.mem_toArray];exact List.mem_map_of_mem g);obtain⟨I,L,V⟩:=JI B (Sa A) F;refine BO (v:=.agg I) ?_ ⟨GS.Le.refl s,I,rfl,V⟩;have u:(vX.toArray.map λp:Nat×Operand=>(p.1,E p.2)).toList=vX.map λp=>(p.1,E p.2):=by simp
 simp only[execOp,G,Instr.build,Sem.run_bind,J.run_zero,Result.andThen_ok,run_underlying J.und,X.run_size,u,L,Sem.run_pure]
def EK(k:Nat):Nat->List D->List (List D)
 |0,_=>[]
 |n+1,R=>R.take k::EK k n (R.drop k)
theorem Bg(k:Nat):∀(n:Nat) (R:List D),(EK k n R).length=n
 |0,_=>rfl
 |n+1,R=>by simp[EK,Bg k n]
theorem Ll(A:Nat):∀(n:Nat) (R:List D) (k:Nat),k<n->(EK A n R).getD k []=(R.drop (k*A)).take A
 |0,_,k,h=>absurd h ZbK
 |n+1,R,0,_=>by simp[EK]
 |n+1,R,k+1,h=>by
  have:=Ll A n (R.drop A) k ZbK;rw[List.drop_drop]at this;simp only[EK,List.getD_cons_succ,this,Nat.succ_mul];rw[Nat.add_comm A]
theorem Quiet.buildSlice{len n b Y R:Nat}{d:TypeDesc}{parts:List (Nat×Operand)}{r:List (Nat×List D)}(a:o.op=.buildSlice t len parts.toArray)(J:Tab P t (.slice U) n b z)(X:Tab P U d Y R v)(f:0<len)(M:0<Y)(Z:v.cells.size=Y)(xi:len*Y<=16777216)(A:GP v.cells.toList=true)(E:PartsA hp arg parts r)(O:FQ (λi=>some (i*Y,Y)) (List.replicate (len*Y) Cs) r=some c):Quiet P hp o arg (.d (slD U Y (EK Y len c))):=by
 refine⟨λbase s W I H xc x h=>?_⟩;have B:=PartsA.rel (ev:=I) x E λp xk=>h p.2 (by rw[a];simp only[Op.operands,List.mem_toArray];exact List.mem_map_of_mem xk)
 have xe:HE s ((Array.range (len*Y)).map (λj=>v.cells[j%v.cells.size]!)) (List.replicate (len*Y) Cs):=by
  refine⟨by simp,λk C=>?_⟩;simp at C;have Q:k%v.cells.size<v.cells.size:=Nat.mod_lt _ ZbK
  refine ⟨v.cells[k % v.cells.size]!, by simp [C], List.all_eq_true.1 A _ (by
   have U:v.cells[k%v.cells.size]! = v.cells[k%v.cells.size]'Q:=by simp[Q]
   rw[U];simp),?_⟩
  have:Dd (List.replicate (len*Y) Cs) k=Cs:=by simp[Dd,C]
  rw[this];trivial
 obtain⟨xb,L,V⟩:=JI B xe O
 have xl:len*Y≠0:=by
  have:=Nat.mul_pos f M;omega
 have g:(parts.toArray.map λp:Nat×Operand=>(p.1,I p.2)).toList=parts.map λp=>(p.1,I p.2):=by simp
 have T:(execOp I o).run P s.w=.ok (.value (.slice (some ⟨s.w.heap.size,0,none⟩) len len)) (s.w.alloc (.cells xb U)):=by
  have xn:∀arr,(newRow U arr).run P s.w=.ok ⟨s.w.heap.size,0,none⟩ (s.w.alloc (.cells arr U)):=λ_=>rfl;have xm:¬(len*Y>2^24):=by omega
  simp only[execOp,a,Instr.buildSlice,Sem.run_bind,run_underlying J.und,Result.andThen_ok,X.run_size,if_neg xm,if_neg xl,X.run_zero,Sem.run_pure,g,L,xn]
 have S:Ext s.w (s.w.alloc (.cells xb U)):=(Ext.refl _).alloc _;have y:=EM S
 have K:c.length=len*Y:=by
  have w:∀(l:List (Nat×List D)) (xf xh:List D),FQ (λi=>some (i*Y,Y)) xf l=some xh->xh.length=xf.length:=by
   intro l
   induction l with
   |nil=>intro xf xh h;cases h;rfl
   |cons p l q=>
    intro xf xh h;obtain⟨i,N⟩:=p;unfold FQ at h;simp only at h
    cases F:(Nat.beq N.length Y&&Nat.ble (i*Y+Y) xf.length)with
    |false=>exact ZhZ
    |true=>
     rw[F]at h;simp only[Bool.and_eq_true,Nat.ble_eq]at F;have G:N.length=Y:=Nat.eq_of_beq_eq_true F.1;rw[q _ _ h,Hj ZbK]
  rw[w _ _ _ O];simp
 refine HN T (s.grown (s.w.alloc (.cells xb U))) rfl ⟨y,_,len,by rw[Bg],by rw[Bg];exact Nat.le_refl _,by have:=Nat.le_mul_of_pos_right len M;omega,λ_=>⟨s.w.heap.size,0,rfl,λk C=>?_⟩⟩;rw[Bg]at C
 have xj:k*Y+Y<=len*Y:=by
  have:(k+1)*Y<=len*Y:=Nat.mul_le_mul_right Y C;exact Zgn
 rw[Ll _ _ _ _ C];refine⟨by simp;omega,xb,(0,0),heap_alloc_new s.w _,λj e=>?_⟩;have xg:j<Y:=by simp at e;omega
 refine⟨.inr ⟨Nat.le_refl _,by show _<(s.w.alloc _).heap.size;simp⟩,?_⟩;rw[JO xg,Hx,Nat.zero_add];obtain⟨u,m,xa,xd⟩:=V.2 (k*Y+j) ZbK;exact⟨u,m,xa,(Dd c _).st xd y.chg⟩
theorem Quiet.slice{e n b Y r T sz:Nat}{d:TypeDesc}{lo hi:Option Operand}{rows:List (List D)}(Q:o.op=.slice t x lo hi none)(F:GG hp (arg x)=some (slD T sz rows))(J:Tab P t (.slice e) n b z)(X:Tab P e d Y r v)(S:Y=sz)(U:(∃y,lo=some y/\arg y=.d (ex (.int .i64 i)))\/(lo=none/\i=0))(xe:(∃y,hi=some y/\arg y=.d (ex (.int .i64 j)))\/(hi=none/\j=rows.length))(M:0<=i)(u:i<=j)(K:j<=rows.length):Quiet P hp o arg (.d (slD T sz ((rows.take j.toNat).drop i.toNat))):=by
 refine⟨λbase s W N H w f h=>?_⟩;obtain⟨A,c,I,B,C,L⟩:=DN f (h x Zdw) F;subst S;obtain⟨i,rfl⟩:=Int.eq_ofNat_of_zero_le M;obtain⟨j,rfl⟩:=Int.eq_ofNat_of_zero_le (Int.le_trans M u);have xf:i<=j:=by omega
 have xc:j<=rows.length:=by omega
 have xi:∃xb,lo.map N=xb/\((xb=some (.int .i64 i))\/(xb=none/\i=0)):=by
  rcases U with⟨y,rfl,O⟩ | ⟨rfl,hi0⟩
  .exact Zav
  .exact Zis
 have xh:∃xa,hi.map N=xa/\((xa=some (.int .i64 j))\/(xa=none/\j=rows.length)):=by
  rcases xe with⟨y,rfl,O⟩ | ⟨rfl,hi0⟩
  .exact Zav
  .exact Zis
 obtain⟨xb,Z,R⟩:=xi;obtain⟨xa,l,a⟩:=xh;have xg:(j:Int)<=c:=by omega
 have xd:(i:Int)<=j:=by omega
 have G:(Instr.sliceBounds true rows.length c xb xa none).run P s.w=.ok (i,j,c) s.w:=by
  rcases R with rfl | ⟨rfl,rfl⟩<;>rcases a with rfl | ⟨rfl,rfl⟩<;>simp[Instr.sliceBounds,Instr.sliceBound,asIntOf,xg,xd,xf,xc,B]
  all_goals first | omega | simp[xf,xc,B] | skip
 have q:(execOp N o).run P s.w=.ok (.value (.slice (if c=i then A else A.map (·.add (i*Y))) (j-i) (c-i))) s.w:=by
  simp only[execOp,Q,Z,l,I,Option.map_none,Instr.sliceAt,Sem.run_bind,run_underlying J.und,Result.andThen_ok,Instr.slice,G,X.run_size,Sem.run_pure]
 have V:((rows.take (j:Int).toNat).drop (i:Int).toNat).length=j-i:=Zhz
 refine BO q ⟨GS.Le.refl s,(if c=i then A else A.map (·.add (i*Y))),c-i,by rw[V],by rw[V];omega,by omega,λhp=>?_⟩;rw[V]at hp;obtain⟨g,p,rfl,m⟩:=L ZbK;refine⟨g,p+i*Y,?_,λk E=>?_⟩
 .rw [if_neg ZbK]
  simp[Addr.add_lit]
 .rw [V]at E
  rw[show(j:Int).toNat=j from rfl,show(i:Int).toNat=i from rfl];rw[RD,MD ZbK];have:=m (i+k) ZbK;exact Zia
end
def AVle(G:List Ow)(m:Nat)(x y:AV):Prop:=∀base W s v,HpOk base W s G->AVr G.length W s x v->AVr m W s y v
theorem AVle.d{hp:List Ow}{m:Nat}{x y:D}(h:x=y):AVle hp m (.d x) (.d y):=λ_ _ _ _ _ q=>h▸q
theorem AVle.le{hp:List Ow}{m:Nat}{x y:D}(h:D.le x y):AVle hp m (.d x) (.d y):=λ_ _ s v _ q=>h s v q
theorem AVle.int{hp:List Ow}{m:Nat}{k:IntKind}{a b:Int}(h:a=b):AVle hp m (.d (ex (.int k a))) (.d (ex (.int k b))):=AVle.d (by rw[h])
theorem AVle.ptr{m i off:Nat}(h:Nat.blt i m=true):AVle H m (.ptr i off) (.ptr i off):=λ_ _ _ _ _ ⟨_,q⟩=>⟨by simpa[Nat.blt_eq]using h,q⟩
theorem AVle.own{hp:List Ow}{m i:Nat}(h:Nat.blt i m=true):AVle hp m (.own i) (.own i):=λ_ _ _ _ _ ⟨_,q⟩=>⟨by simpa[Nat.blt_eq]using h,q⟩
theorem BL{m:Nat}{f:FuncId}(h:l.all (Nat.blt · m)=true):AVle H m (.fn f l) (.fn f l):=λ_ _ _ _ _ ⟨_,q⟩=>⟨λi M=>by simpa[Nat.blt_eq]using List.all_eq_true.1 h i M,q⟩
theorem KF{m i:Nat}(h:GG H (.own i)=some r)(K:D.le r vt):AVle H m (.own i) (.d vt):=λ_ _ s v l q=>K s v (DN l q h)
theorem Bf{T k:Nat}:D.le (ex (.slice none 0 0)) (slD T k []):=λs v h=>by
 have:v=.slice none 0 0:=h;subst this;exact slD.nil T k s
def FrLe(G:List Ow)(m:Nat)(Y E:List (Nat×AV)):Prop:=∀p∈E,∃U,BV Y p.1=some U/\AVle G m U p.2
theorem FrLe.nil{hp:List Ow}{m:Nat}{Y:List (Nat×AV)}:FrLe hp m Y []:=λp hp=>by cases hp
theorem FrLe.cons{m:Nat}{Y r:List (Nat×AV)}{t:Nat}{x y:AV}(h:BV Y t=some x)(K:AVle H m x y)(b:FrLe H m Y r):FrLe H m Y ((t,y)::r):=λp H=>by
 rcases List.mem_cons.1 H with rfl | H
 .exact ⟨x,h,K⟩
 .exact b p H
def OwLe(G:List Ow)(m:Nat):Ow->Ow->Prop
 |_,.dead=>True
 |.var T cells,.var Q U=>T=Q/\cells.length=U.length/\∀(k:Nat) y,U[k]? = some y->∃x,cells[k]? = some x/\AVle G m x y
 |.row T A B,.row Q C E=>T=Q/\A=C/\B=E
 |.obj O,.obj t=>O=t
 |.pin l,.pin P=>l.length=P.length/\∀(k:Nat) q,P[k]? = some q->∃p,l[k]? = some p/\p.1=q.1/\AVle G m p.2 q.2
 |_,_=>False
theorem OwLe.dead{m:Nat}:OwLe H m vs .dead:=by cases vs<;>trivial
theorem OwLe.row{hp:List Ow}{m T sz:Nat}{r b:List (List D)}(h:r=b):OwLe hp m (.row T sz r) (.row T sz b):=⟨rfl,rfl,h⟩
theorem OwLe.obj{m:Nat}{O t:OD}(h:O=t):OwLe H m (.obj O) (.obj t):=h
theorem OwLe.pin{m:Nat}{l:List (Value×AV)}(h:∀p∈l,AVle H m p.2 p.2):OwLe H m (.pin l) (.pin l):=⟨rfl,λk q w=>⟨q,w,rfl,h q (List.mem_of_getElem? w)⟩⟩
theorem OwLe.var{m T:Nat}{c f:List AV}(K:c.length=f.length)(h:∀(k:Nat) y,f[k]? = some y->∃x,c[k]? = some x/\AVle H m x y):OwLe H m (.var T c) (.var T f):=⟨rfl,K,h⟩
theorem OwLe.varD{m T:Nat}(h:c=vn):OwLe H m (.var T (c.map .d)) (.var T (vn.map .d)):=by
 subst h;refine⟨rfl,rfl,λk y O=>⟨y,O,?_⟩⟩;rw[List.getElem?_map]at O
 cases C:c[k]? with
 |none=>rw[C]at O;cases O
 |some x=>rw[C]at O;cases O;exact AVle.d rfl
def HpLe(G:List Ow)(m:Nat):List Ow->List Ow->Prop
 |_,[]=>True
 |x::l,y::r=>OwLe G m x y/\HpLe G m l r
 |[],_::_=>False
theorem HpLe.nil{hp:List Ow}{m:Nat}{l:List Ow}:HpLe hp m l []:=by cases l<;>trivial
theorem HpLe.cons{m:Nat}{x y:Ow}{l r:List Ow}(h:OwLe H m x y)(b:HpLe H m l r):HpLe H m (x::l) (y::r):=⟨h,b⟩
theorem HpLe.get{G:List Ow}{m:Nat}:∀{l r:List Ow},HpLe G m l r->∀(i:Nat) y,r[i]? = some y->∃x,l[i]? = some x/\OwLe G m x y
 |_,[],_,i,y,h=>by cases h
 |[],_::_,h,_,_,_=>h.elim
 |x::l,y::r,⟨A,B⟩,0,z,h=>by cases h;exact⟨x,rfl,A⟩
 |x::l,y::r,⟨A,B⟩,i+1,z,h=>HpLe.get B i z ZcY
theorem Ad{σ τ:AS}(K:FrLe σ.hp τ.hp.length σ.fr τ.fr)(X:HpLe σ.hp τ.hp.length σ.hp τ.hp):AS.le σ τ:=by
 intro R n a w ⟨s,W,S,h⟩
 have xb:∀(i:Nat) (I:Ow),τ.hp[i]? = some I->∀b,OwB s (W i) I b->∃o:Ow,σ.hp[i]? = some o/\OwB s (W i) o b:=λi I M b F=>by
  obtain⟨o,A,B⟩:=X.get i I M;refine⟨o,A,?_⟩;cases o<;>cases I<;>first | exact B.elim | exact F.elim | exact F | (replace B:_=_:=B;subst B;exact F)
 refine⟨s,W,S,h.le,h.ok,λt U J=>?_,h.sz,h.df,λi I M=>?_,λi j o I g M e b F c=>?_,λi o b M F=>?_⟩
 .obtain ⟨xa,A,B⟩:=K _ (En J)
  exact B _ _ _ _ h.hp (h.fr t xa A)
 .obtain ⟨o,A,B⟩:=X.get i I M
  have L:=h.hp i o A
  cases I with
  |dead=>trivial
  |var T cells=>
   cases o with
   |dead=>exact B.elim
   |row=>exact B.elim
   |obj=>exact B.elim
   |pin=>exact B.elim
   |var Z xc=>
    obtain⟨rfl,v,Y⟩:=B;obtain⟨b,E,r,z,P,p4,p5,p6,p7⟩:=L;refine⟨b,E,r,z,P,p4.trans v,p5,p6,λk U C=>?_⟩;obtain⟨x,f,d⟩:=Y k U C;obtain⟨u,m,H,q5⟩:=p7 k x f;exact⟨u,m,H,d _ _ _ _ h.hp q5⟩
  |row T G Q=>
   cases o with
   |dead=>exact B.elim
   |var=>exact B.elim
   |obj=>exact B.elim
   |pin=>exact B.elim
   |row Z xe xd=>
    obtain⟨rfl,rfl,rfl⟩:=B;exact L
  |obj O=>
   cases o with
   |obj O0=>
    replace B:O0=O:=B;subst B;exact L
   |_=>exact B.elim
  |pin l=>
   cases o with
   |pin l0=>
    intro q N;obtain⟨k,C⟩:=List.getElem?_of_mem N;obtain⟨p,f,d,m⟩:=B.2 k q C;have:=m _ _ _ _ h.hp (L p (List.mem_of_getElem? f));rwa [d]at this
   |_=>exact B.elim
 .obtain ⟨x,A,B⟩:=xb i o M b F
  obtain⟨y,L,V⟩:=xb j I e b c;exact h.sep i j x y g A L b B V
 .obtain ⟨x,A,B⟩:=xb i o M b F
  exact h.own i x b A B
def params:Nat->List D->List (Nat×AV)
 |_,[]=>[]
 |i,d::R=>(i,.d d)::params (i+1) R
theorem Jy:∀{R:List D} {i t:Nat} {U:AV},BV (params i R) t=some U->i<=t/\t-i<R.length/\U=.d (Dd R (t-i))
 |[],i,t,U,h=>by cases h
 |d::R,i,t,U,h=>by
  unfold params at h;rw[CD]at h;split at h
  .rename_i e
   subst e;cases h;exact⟨Nat.le_refl _,by simp,by simp[Dd]⟩
  .rename_i e
   obtain⟨A,B,L⟩:=Jy h;refine⟨by omega,by simp;omega,?_⟩;rw[L,show t-i=(t-(i+1))+1 by omega];simp[Dd]
def Es(h:Array Value):ResultVar->Sem Value
 |.tmp t=>pure (h.getD t undef)
 |.cell a t=>do loadVar t (<-asAddr (h.getD a undef))
structure ResV(P:Program)(σ:AS)(rv:ResultVar)(x:D):Prop where
 run:∀(base:Nat) (ρ:Nat->Value) (s:GS) (tmps:Array Value),HpOk base ρ s σ.hp->(∀t av,BV σ.fr t=some av->AVr σ.hp.length ρ s av (tmps.getD t undef))->∃v,(Es tmps rv).run P s.w=.ok v s.w/\x.rel s v
theorem ResV.tmp{σ:AS}{t:Nat}{x:D}(A:BV σ.fr t=some h)(E:GG σ.hp h=some x):ResV P σ (.tmp t) x:=⟨λbase W s B l C=>⟨_,rfl,DN l (C t h A) E⟩⟩
theorem ResV.cell{σ:AS}{t T Y n b id:Nat}{d:TypeDesc}(h:BV σ.fr t=some (.ptr id 0))(l:σ.hp[id]? = some (.var Y u))(J:Tab P T d n b z)(Z:Ej d=true)(I:Xd σ.hp u=some c)(i:u.length=n):ResV P σ (.cell t T) (AJ c):=by
 refine⟨λbase W s v X r=>?_⟩;obtain⟨-,g,L,E⟩:=r t _ h;obtain⟨x,a,V,m,F,M,N,S,R⟩:=X id _ l;rw[L]at V;cases V;obtain⟨K,G⟩:=Qr I;have O:c.length=n:=by rw[<-K];exact i
 have key:∀j,∃A,j<n->s.w.cell? ⟨g,0+j,none⟩=some A/\A.oneCell'=true/\(Dd c j).rel s A:=λj=>by
  by_cases e:j<n
  .have Q:j<u.length:=by omega
   obtain⟨A,o,q,w⟩:=R j _ (List.getElem?_eq_getElem Q);refine⟨A,λ_=>⟨by rw[Nat.zero_add];exact(CL F).trans o,q,?_⟩⟩;exact DN X w (G j _ (List.getElem?_eq_getElem Q))
  .exact Ziq
 obtain⟨f,p⟩:∃f:Nat->Value,∀j,j<n->s.w.cell? ⟨g,0+j,none⟩=some (f j)/\(f j).oneCell'=true/\(Dd c j).rel s (f j):=⟨λj=>(key j).choose,λj e=>(key j).choose_spec e⟩;have B:=Jq J Z g 0 f λj e=>(p j e).1;refine⟨.agg ((List.range n).map f).toArray,?_,_,rfl,by simp[O],λk C=>?_⟩
 .simp [Es,E,asAddr,B]
 .rw [O]at C
  exact⟨f k,by simp[C],(p k C).2⟩
structure Rets(P:Program)(σ:AS)(rs:Array ResultVar)(r:D):Prop where
 run:∀(base:Nat) (ρ:Nat->Value) (s:GS) (tmps:Array Value) (fn:Func),fn.results=rs->HpOk base ρ s σ.hp->(∀t av,BV σ.fr t=some av->AVr σ.hp.length ρ s av (tmps.getD t undef))->∃v,(results fn tmps).run P s.w=.ok v s.w/\r.rel s v
theorem KQ{F k I:Type}(r:Result F)(f:F->World->Result k)(g:k->World->Result I):(r.andThen f).andThen g=r.andThen λa w=>(f a w).andThen g:=by cases r<;>rfl
theorem RE{rv:ResultVar}(h:vK.results=#[rv])(q:(Es vy rv).run P w=.ok z w):(results vK vy).run P w=.ok z w:=by
 unfold results;rw[h]
 cases rv with
 |tmp t=>simp[Es]at q ⊢;exact q
 |cell a T=>simp[Es]at q ⊢;exact q
theorem ZG(h:vK.results=#[uC,uP])(q:(Es vy uC).run P w=.ok z w)(A:(Es vy uP).run P w=.ok v w):(results vK vy).run P w=.ok (.tuple #[z,v]) w:=by
 have key:(results vK vy).run P w=((Es vy uC).run P w).andThen λa N=>((Es vy uP).run P N).andThen λb H=>.ok (.tuple #[a,b]) H:=by
  unfold results;rw[h];cases uC<;>cases uP<;>simp[Es,KQ]
 rw[key,q,Result.andThen_ok,A,Result.andThen_ok]
theorem Ah{x r:D}(h:ResV P vc uC x)(K:D.le x r):Rets P vc #[uC] r:=⟨λbase W s F C p l E=>by
 obtain⟨v,A,B⟩:=h.run base W s F l E;exact⟨v,RE p A,K s v B⟩⟩
theorem Rets.of2(h:ResV P vc uC r)(a:ResV P vc uP vt)(K:D.le (EY [r,vt]) ul):Rets P vc #[uC,uP] ul:=⟨λbase W s G E p l F=>by
 obtain⟨v,A,B⟩:=h.run base W s G l F;obtain⟨S,L,V⟩:=a.run base W s G l F;refine⟨_,ZG p A L,K s _ ⟨_,rfl,rfl,λk C=>?_⟩⟩
 match k,C with
 |0,_=>exact⟨_,rfl,B⟩
 |1,_=>exact⟨_,rfl,V⟩
 |k+2,C=>exact absurd C ZbV⟩
structure Fin(P:Program)(fn:Func)(r:D)(e:Exit)(σ:AS):Prop where
 how:e=.ret\/e=.normal
 res:Rets P σ fn.results r
theorem Ak(h:Rets P vc vK.results r):Fin P vK r .ret vc:=⟨.inl rfl,h⟩
theorem Abs.intro{f:FuncId}{c:Code}{ds:List D}(p:P.funcs[f]? = some vK)(F:vK.body=some c)(u:∀args w,(callFunc f args).run P w=.ok (.enter f args) w)(C:Nat.ble ds.length vK.ntmps=true)
  (h:∀G,AWp P G vK.ntmps c (Fin P vK r) ⟨params 0 ds,[]⟩):Abs P f ds r:=by
 refine⟨u,λs I H K q=>calls_of_wp p F ?_⟩;have O:ds.length<=vK.ntmps:=by simpa[Nat.ble_eq]using C
 refine wp_mono ((h ⟨s,λ_=>False,[]⟩).run { tmps:=I.toArray++Array.replicate (vK.ntmps-I.toArray.size) undef,defers:=[] } s.w ⟨s,λ_=>undef,rfl,GS.LeX.refl _ s,H,λt U J=>?_,by simp;omega,rfl,(λi o M=>by cases M),(λi j o l _ M=>by cases M),(λi o b M=>by cases M)⟩) ?_
 .obtain ⟨_,B,L⟩:=Jy J
  rw[Nat.sub_zero]at B L;subst L;have V:=q t B;show(Dd ds t).rel s ((I.toArray++Array.replicate (vK.ntmps-I.toArray.size) undef).getD t undef)
  have:(I.toArray++Array.replicate (vK.ntmps-I.toArray.size) undef).getD t undef=I.getD t undef:=by
   exact ZfC
  rw[this];exact V
 .intro e a w ⟨Q,⟨X,T⟩,E,W,N,x⟩
  subst N;obtain⟨v,A,B⟩:=T.run _ W E a.tmps vK rfl x.hp x.fr;rcases X with rfl | rfl
  .exact Zit
  .exact Zit
inductive HR
 |av (r:AV)
 |new (T:TypeId) (cs:List Value)
def HR.val:HR->AV
 |.av r=>r
 |.new _ _=>.d Cs
def Eu(d:AS)(rs:List HR)(n:List (Nat×Nat)):Operand->AV
 |.tmp t=>match n.find? (λp=>p.1==t)with
  |some p=>match rs[p.2]? with
   |some h=>h.val
   |none=>.d Cs
  |none=>(BV d.fr t).getD (.d Cs)
 |.global _=>.d Cs
 |x=>d.arg x
def HStep(P:Program)(A:AS)(rs:List HR)(B:List (Nat×Nat))(o:Oper):HR->Prop
 |.av r=>(o.guard=none/\Quiet P A.hp o (Eu A rs B) r)\/∃j b u,o.guard=some (j,b)/\rs[j]? = some (.av (.d (ex u)))/\((u=.bool b/\Quiet P A.hp o (Eu A rs B) r)\/(u≠.bool b/\r=.d (ex undef)))
 |.new T a=>o.guard=none/\o.op=.alloc T/\T≠335/\GP a=true/\∃d n b z,Tab P T d n b z/\z.cells.toList=a
def HSteps(P:Program)(d:AS)(rs:List HR):List Oper->List (List (Nat×Nat))->List HR->Prop
 |o::L,x::S,r::T=>HStep P d rs x o r/\HSteps P d rs L S T
 |_,[],[]=>True
 |_,_,_=>False
theorem HSteps.nil{σ:AS}{rs:List HR}{L:List Oper}:HSteps P σ rs L [] []:=by cases L<;>trivial
theorem HStep.q{σ:AS}{rs:List HR}{r:AV}(I:va.guard=none)(h:Quiet P σ.hp va (Eu σ rs vE) r):HStep P σ rs vE va (.av r):=.inl ⟨I,h⟩
variable{um:List HR}
theorem AK{j:Nat}{b:Bool}(I:va.guard=some (j,b))(e:um[j]? = some (.av (.d (ex (.bool b)))))(A:Quiet P vc.hp va (Eu vc um vE) h):HStep P vc um vE va (.av h):=.inr ⟨j,b,.bool b,I,e,.inl ⟨rfl,A⟩⟩
theorem A2N{j:Nat}{b:Bool}(I:va.guard=some (j,b))(e:um[j]? = some (.av (.d (ex z))))(A:isB z b=false):HStep P vc um vE va (.av (.d (ex undef))):=.inr ⟨j,b,z,I,e,.inr ⟨A1R A,rfl⟩⟩
theorem HStep.n{σ:AS}{rs:List HR}{o:Oper}{T n b:Nat}{d:TypeDesc}(I:o.guard=none)(J:Tab P T d n b z)(C:o.op=.alloc T)(h:T≠335)(A:GP z.cells.toList=true):HStep P σ rs vE o (.new T z.cells.toList):=⟨I,C,h,A,d,n,b,z,J,rfl⟩
def AS.aft(d:AS):List Oper->List HR->AS
 |o::L,.av r::X=>AS.aft (d.put o.dst r) L X
 |o::L,.new T a::X=>AS.aft (d.new o.dst (.ptr d.hp.length 0) (.var T (Wf a))) L X
 |_,_=>d
def HFact(m:Nat)(ρ:Nat->Value)(W:Nat)(i:Nat):HR->Value->GS->Prop
 |.av r=>λv s=>AVr m ρ s r v
 |.new T a=>λv s=>∃b,v=.pointer (some ⟨b,0,none⟩)/\W<=b/\s.w.heap[b]? = some (.cells a.toArray T (0,0))/\(∀k,¬s.S b k)/\s.tag b=i+1/\T≠335/\GP a=true
theorem HFact.st{m:Nat}{ρ:Nat->Value}{W i:Nat}{r:HR}:RegG.Stab (HFact m ρ W i r):=λv s j K h=>by
 cases r with
 |av r=>exact AVr.chg h K.chg
 |new T a=>
  obtain⟨b,A,B,L,V,E,z,d⟩:=h;exact⟨b,A,B,(K.ext.block (Bm L)).trans L,λk C=>V k (K.old b k (Bm L) C),(K.tag b (Bm L)).trans E,z,d⟩
def facts(m:Nat)(ρ:Nat->Value)(W:Nat):Nat->List HR->List RegG.VFact
 |_,[]=>[]
 |i,r::X=>HFact m ρ W i r::facts m ρ W (i+1) X
theorem LJ{m:Nat}{ρ:Nat->Value}{W:Nat}:∀{X:List HR} {i j:Nat} {r:HR},X[j]? = some r->(facts m ρ W i X)[j]? = some (HFact m ρ W (i+j) r)
 |[],i,j,r,h=>by cases h
 |x::X,i,0,r,h=>by cases h;rfl
 |x::X,i,j+1,r,h=>by
  have:=LJ (m:=m) (ρ:=ρ) (W:=W) (i:=i+1) (by simpa using h:X[j]? = some r);simp only[facts,List.getElem?_cons_succ,this];congr 2;omega
theorem PW{m:Nat}{A:Nat->Value}{W:Nat}:∀(X:List HR) (i:Nat),RegG.StabAll (facts m A W i X)
 |[],_=>trivial
 |_::X,i=>⟨HFact.st,PW X (i+1)⟩
theorem RS{m:Nat}{A:Nat->Value}{W:Nat}:∀(X:List HR) (i:Nat),(facts m A W i X).length=X.length
 |[],_=>rfl
 |_::X,i=>by simp[facts,RS X (i+1)]
theorem Xe{s0:An}{n:Nat}{s':GS}{m W:Nat}{ρ0:Nat->Value}{g:Nat->Value}:∀{L:List Oper} {rs:List HR} {i:Nat} {σ:AS} {a:Act} {ρ:Nat->Value},L.length=rs.length->StI s0 n σ a s' ρ->m<=σ.hp.length->(∀j,j<m->ρ j=ρ0 j)->s0.g.w.heap.size<=W ->
  (∀k o b,σ.hp[k]? = some o->OwB s' (ρ k) o b->b<W\/∃j,j<i/\s'.tag b=j+1)->(∀(j:Nat) r,rs[j]? = some r->HFact m ρ0 W (i+j) r (g (i+j)) s')->Gw L L.length n=true->∃ρ',StI s0 n (σ.aft L rs) (EG g L i a) s' ρ'
 | [],[],i,σ,a,ρ,_,h,_,_,_,_,_,_=>⟨ρ,h⟩
 | [],_::_,_,_,_,_,hl,_,_,_,_,_,_,_=>by simp at hl
 | _::_,[],_,_,_,_,hl,_,_,_,_,_,_,_=>by simp at hl
 | o::L,r::rs,i,σ,a,ρ,hl,h,hm,hρ,hW,hb,hf,hd=>by
  have hd1:∀d,o.dst=some d->d<n:=λd hdo=>by
   have h2:=List.all_eq_true.1 hd o (by simp)
   simp only [hdo,decide_eq_true_eq] at h2
   exact h2
  have hd2:Gw L L.length n=true:=List.all_eq_true.2 λx hx=>List.all_eq_true.1 hd x (by simp at hx ⊢;exact .inr hx)
  have hf0:=hf 0 r rfl
  rw [Nat.add_zero] at hf0
  have hf':∀(j:Nat) r',rs[j]? = some r'->HFact m ρ0 W (i+1+j) r' (g (i+1+j)) s':=λj r' hj=>by
   have:=hf (j+1) r' (by simpa using hj)
   rw [show i+(j+1)=i+1+j by omega] at this
   exact this
  cases r with
  | av r=>
   have h1:=h.put (GS.Le.refl s') hd1 (v:=g i) (r:=r) (hf0.mono hm hρ)
   refine Xe (L:=L) (rs:=rs) (i:=i+1) (by simpa using hl) h1 ?_ hρ hW ?_ hf' hd2
   .cases hdo:o.dst<;>exact hm
   .intro k o' b hk hv
    have hk':σ.hp[k]? = some o':=by cases hdo:o.dst<;>(rw [hdo] at hk;exact hk)
    rcases hb k o' b hk' hv with h2 | ⟨j,h2,h3⟩
    .exact .inl h2
    .exact .inr ⟨j,by omega,h3⟩
  | new T cs=>
   obtain ⟨b,e1,e2,e3,e4,e5,e6,e7⟩:=hf0
   have h1:=h.newG (GS.Le.refl s') hd1 (v:=g i) (u:=.pointer (some ⟨b,0,none⟩)) (r:=.ptr σ.hp.length 0) (ow:=.var T (Wf cs)) ⟨by omega,b,by simp,e1⟩ ?_ ?_ (λb' hb'=>by cases hb';exact .inr (Nat.le_trans hW e2))
   .refine Xe (L:=L) (rs:=rs) (i:=i+1) (by simpa using hl) h1 (by show m<=(σ.hp++[_]).length; simp; omega) (λj hj=>by rw [if_neg (by omega)]; exact hρ j hj) hW ?_ hf' hd2
    intro k o' b' hk hv
    replace hk:(σ.hp++[Ow.var T (Wf cs)])[k]? = some o':=hk
    rw [List.getElem?_append] at hk
    split at hk
    .rename_i hlt
     rw [if_neg (by omega)] at hv
     rcases hb k o' b' hk hv with h2 | ⟨j,h2,h3⟩
     .exact .inl h2
     .exact .inr ⟨j,by omega,h3⟩
    .rename_i hge
     have:k=σ.hp.length:=by
      have:=Ca hk
      simp at this
      omega
     subst this
     rw [if_pos rfl] at hv
     have ho:o' = .var T (Wf cs):=by simp at hk;exact hk.symm
     subst ho
     cases hv
     exact .inr ⟨i,by omega,e5⟩
   .refine ⟨b, cs.toArray, by simp, Nat.zero_le _, e3, by simp [Wf], e6, e4, λk av hk=>?_⟩
    unfold Wf at hk
    rw [List.getElem?_map] at hk
    cases hz:cs[k]? with
    | none=>rw [hz] at hk;cases hk
    | some u=>
     rw [hz] at hk
     cases hk
     exact ⟨u,by simpa using hz,List.all_eq_true.1 e7 u (List.mem_of_getElem? hz),rfl⟩
   .intro b' hb' k o' hk hv
    cases hb'
    rcases hb k o' b hk hv with h2 | ⟨j,h2,h3⟩
    .omega
    .omega
structure DrawOk(P:Program)(s0:An)(n:Nat)(id:Nat)(L0:Array Oper)(L:List Oper)(Q0 Q:Exit->AS->Prop):Prop where
 run:∀(a:Act) (w:World),wpAny P .any L.toArray (FE s0 n Q) L.toArray.size (Array.replicate L.toArray.size false) a w.drew->(Code.region id L0 true).wp P (FE s0 n Q0) a w
theorem Ic{s0:An}{n:Nat}{L:List Oper}{Q:Exit->AS->Prop}(t:P.follows .mixedOrders=true):DrawOk P s0 n b L.toArray L Q Q:=⟨λ_ _ h=>wp_region_any t h⟩
theorem A33{P:Program}{s0:An}{n:Nat}{Q Q0:Exit->AS->Prop}{σ:AS}{id:Nat}{L0:Array Oper}{L:List Oper}(hm:DrawOk P s0 n id L0 L Q0 Q)(es:List (List (Nat×Nat)))(bs:List (List Nat))(rs:List HR)(hlen:(es.length==bs.length&&es.length==rs.length&&Nat.ble rs.length L.length)=true)(hok:Dt L (Fc 0 es bs)=true)(hd:Gw L es.length n=true)(steps:HSteps P σ rs L es rs)
  (tail:AWl P s0 n L.toArray Q (L.drop es.length) (σ.aft (L.take es.length) rs)):AWp P s0 n (.region id L0 true) Q0 σ:=by
 refine ⟨λa w ⟨s,ρ,hw,hst⟩=>?_⟩
 subst hw
 simp only [Bool.and_eq_true,beq_iff_eq,Nat.ble_eq] at hlen
 obtain ⟨⟨hl1,hl2⟩,hl3⟩:=hlen
 refine RegG.wp_region_v (hm.run a s.w) es bs (facts σ.hp.length ρ s.w.heap.size 0 rs) (by rw [RS];simp [hl1,hl2];omega) hok (by rw [hst.sz];exact hd) (PW rs 0) ?_ λg s' hE hF=>?_
 .have hle0:GS.Le s s.dr:=IF s
  have step:∀(o:Oper) (x:List (Nat×Nat)) (r:HR) (i:Nat),HStep P σ rs x o r->RegG.UStep P (facts σ.hp.length ρ s.w.heap.size 0 rs) a s.dr o x (HFact σ.hp.length ρ s.w.heap.size i r):=by
   intro o x r i hr s1 ev hE hk ha hc hf
   have hle:GS.Le s s1:=hle0.trans hE
   have hhp:=hst.hp.le hle
   have hok1:=hle.ok hst.ok
   have hbase:0<=s1.w.heap.size:=Nat.zero_le _
   have hknown:∀(x:List (Nat×Nat)),RegG.OpsKnown (facts σ.hp.length ρ s.w.heap.size 0 rs) ev s1 x->∀p∈x,∀F,(facts σ.hp.length ρ s.w.heap.size 0 rs)[p.2]? = some F->F (ev (.tmp p.1)) s1:=by
    intro x
    induction x with
    | nil=>intro _ p hp;cases hp
    | cons q x ih=>
     intro h p hp
     obtain ⟨t,j⟩:=q
     rcases List.mem_cons.1 hp with rfl | hp
     .exact h.1
     .exact ih h.2 p hp
   have hargs:∀y,y∈o.op.operands->AVr σ.hp.length ρ s1 (Eu σ rs x y) (ev y):=by
    intro y _
    cases y with
    | tmp t=>
     show AVr _ ρ s1 (match x.find? (λp=>p.1==t) with
      | some p=>match rs[p.2]? with
       | some h=>h.val
       | none=>.d Cs
      | none=>(BV σ.fr t).getD (.d Cs)) _
     cases hfd:x.find? (λp=>p.1==t) with
     | some p=>
      have hp:p∈x:=List.mem_of_find?_eq_some hfd
      have hpt:p.1=t:=by simpa using List.find?_some hfd
      simp only
      cases hrp:rs[p.2]? with
      | none=>trivial
      | some h=>
       have h1:=hknown x hk p hp _ (LJ hrp)
       rw [hpt] at h1
       cases h with
       | av r=>exact h1
       | new T cs=>trivial
     | none=>
      simp only
      rw [ha t λp hp e=>by have:=List.find?_eq_none.1 hfd p hp;simp [e] at this]
      exact (hst.arg (.tmp t)).chg hle.chg
    | const v=>show ev _=v;exact hc v
    | global b=>
     trivial
    | func f=>show ev _=_;exact hf f
   cases r with
   | av r=>
    rcases hr with ⟨hg,hq⟩ | ⟨j,b,c,hg,hj,hq⟩
    .rw [hg]
     exact hq.run _ s1 ρ ev hok1 hbase hhp hargs
    .rw [hg]
     intro gv hgv
     have h1:=hgv _ (LJ hj)
     have e1:gv=c:=h1
     rcases hq with ⟨rfl,hq⟩ | ⟨hne,rfl⟩
     .exact ⟨λ_=>hq.run _ s1 ρ ev hok1 hbase hhp hargs,λh=>absurd e1 h⟩
     .exact ⟨λh=>by rw [e1] at h;exact absurd h hne,λ_=>rfl⟩
   | new T cs=>
    obtain ⟨hg,hop,hT,h1,d,k,b,z,ht,hz⟩:=hr
    rw [hg]
    subst hz
    have hrun:(execOp ev o).run P s1.w = .ok (.value (.pointer (some ⟨s1.w.heap.size,0,none⟩))) (s1.w.alloc (.cells z.cells T)):=by
     simp [execOp,hop,Instr.alloc,ht.run_zero,IJ]
    refine HN hrun (s1.mk' z.cells T (i+1)) rfl ⟨s1.le_mk' z.cells T (i+1) hT,s1.w.heap.size,rfl,hle.ext.size,heap_alloc_new s1.w _,λk hk=>absurd (hok1.lt _ _ hk) (Nat.lt_irrefl _),?_,hT,h1⟩
    show (if s1.w.heap.size=s1.w.heap.size then i+1 else _)=i+1
    rw [if_pos rfl]
  have all:∀(L:List Oper) (es:List (List (Nat×Nat))) (T:List HR) (i:Nat),HSteps P σ rs L es T->RegG.USteps P (facts σ.hp.length ρ s.w.heap.size 0 rs) a s.dr L es (facts σ.hp.length ρ s.w.heap.size i T):=by
   intro L
   induction L with
   | nil=>
    intro es T i h
    cases es with
    | nil=>cases T with
     | nil=>trivial
     | cons=>exact h.elim
    | cons=>cases T<;>exact h.elim
   | cons o L ih=>
    intro es T i h
    cases es with
    | nil=>cases T with
     | nil=>trivial
     | cons=>exact h.elim
    | cons x es=>cases T with
     | nil=>exact h.elim
     | cons r T=>exact ⟨step o x r i h.1,ih es T (i+1) h.2⟩
  exact all L es rs 0 steps
 .have hle:GS.Le s s':=(IF s).trans hE
  have hst':StI s0 n σ a s' ρ:=hst.put hle (dst:=none) (λd hd=>by cases hd) (v:=undef) (r:=.d Cs) trivial
  have htl:(L.take es.length).length=rs.length:=by simp;omega
  obtain ⟨ρ',hfin⟩:=Xe (g:=g) (L:=L.take es.length) (rs:=rs) (i:=0) (W:=s.w.heap.size) (m:=σ.hp.length) (ρ0:=ρ) htl hst' (Nat.le_refl _) (λ_ _=>rfl) hst.le.size (λk o b hk hv=>.inl ((hst.hp k o hk).blk_lt0 (OwB.le (hst.hp k o hk) hle hv))) (λj r hj=>by
   rw [Nat.zero_add]
   have:=hF j _ (LJ hj)
   rwa [Nat.zero_add] at this) (by
   have:(L.take es.length).take (L.take es.length).length=L.take es.length:=List.take_length
   unfold Gw
   rw [this]
   exact hd)
  exact tail.run _ _ ⟨s',ρ',rfl,hfin⟩
section
variable {P:Program} {s0:An} {n:Nat} {Q:Exit->AS->Prop} {σ:AS}
theorem Je(h:ur σ):AThen ur Q .normal σ:=⟨h⟩
theorem Gi(h:Q .ret σ):AThen ur Q .ret σ:=⟨h⟩
theorem Bz{i:Nat}(h:Q (.exit i) σ):AThen ur Q (.exit i) σ:=⟨h⟩
theorem Bv{i:Nat}(h:Q .normal σ):ABlock i Q .normal σ:=⟨h⟩
theorem Jf{i:Nat}(h:Q .ret σ):ABlock i Q .ret σ:=⟨h⟩
theorem BE{i:Nat}(h:Q .normal σ):ABlock i Q (.exit i) σ:=⟨by
 show(if i=i then Q .normal σ else Q (.exit i) σ);rw[if_pos rfl];exact h⟩
theorem VY{i j:Nat}(z:Nat.beq j i=false)(h:Q (.exit j) σ):ABlock i Q (.exit j) σ:=⟨by
 show(if j=i then Q .normal σ else Q (.exit j) σ);rw[if_neg (Nat.ne_of_beq_eq_false z)];exact h⟩
theorem Ss{m:Nat}(h:Q .ret σ):ALoop uQ m Q .ret σ:=⟨h⟩
theorem BP{m i:Nat}(h:Q (.exit i) σ):ALoop uQ m Q (.exit i) σ:=⟨h⟩
theorem Am{m:Nat}(d:Nat)(t:d<m)(i:uQ d vc)(K:AS.le σ vc):ALoop uQ m Q .normal σ:=⟨d,t,vc,i,K⟩
end
end
end Go.Proofs.YtcikkglcoeedlaaGreat
