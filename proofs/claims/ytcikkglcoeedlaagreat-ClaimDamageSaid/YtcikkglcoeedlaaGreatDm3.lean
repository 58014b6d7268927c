/- Part 3. No condition. -/
import Derived.Deep.Upon
import Derived.Test.YtcikkglcoeedlaaGreatDm2
set_option linter.all false
set_option maxRecDepth 100000
namespace Go.Proofs.YtcikkglcoeedlaaGreat
variable{ve:AS}{uw:AS->Prop}{h:AV}{ua:Array Oper}{vB:Array Value}{o:Bool}{vp ud:Code}{r vv uq:D}{vQ:Func}{s:GS}{vk ue:List (List D)}{uu:List (Nat×List D)}{vw:List (Nat×Nat)}{uf:List (Nat×Operand)}{R ut:List AV}{v vn:List D}{l:List Nat}{H:List Ow}{b k vj:Nat}{xb:Nat->AS->Prop}{vh:Nat->Value}{va:Oper}{x y vT:Operand}{vC:Operand->AV}{vz:Option Tmp}{vs:Ow}{P:Program}{uK xa:ResultVar}{t U:TypeId}{z u:Value}{w:World}
section
open Go.RowKit
def GR(s0:An)(n:Nat)(Q:Exit->AS->Prop):Exit->Act->World->Prop:=λe a w=>∃q,Q e q/\St s0 n q a w
structure AWp(P:Program)(s0:An)(n:Nat)(c:Code)(Q:Exit->AS->Prop)(σ:AS):Prop where
 run:∀a w,St s0 n σ a w->c.wp P (GR s0 n Q) a w
structure AWl(P:Program)(s0:An)(n:Nat)(ops:Array Oper)(Q:Exit->AS->Prop)(l:List Oper)(σ:AS):Prop where
 run:∀a w,St s0 n σ a w->wpList P ops (GR s0 n Q) l a w
def Abw(next:AS->Prop)(Q:Exit->AS->Prop):Exit->AS->Prop
 |.normal,q=>next q
 |e,q=>Q e q
structure AThen(next:AS->Prop)(Q:Exit->AS->Prop)(e:Exit)(σ:AS):Prop where
 run:Abw next Q e σ
def A9k(id:Nat)(Q:Exit->AS->Prop):Exit->AS->Prop
 |.exit j,q=>if j=id then Q .normal q else Q (.exit j) q
 |e,q=>Q e q
structure ABlock(id:Nat)(Q:Exit->AS->Prop)(e:Exit)(σ:AS):Prop where
 run:A9k id Q e σ
section
variable {P:Program} {s0:An} {n:Nat} {Q:Exit->AS->Prop} {σ:AS}
theorem Ah{x y:Code}(h:AWp P s0 n x (AThen (AWp P s0 n y Q) Q) σ):AWp P s0 n (.seq x y) Q σ:=⟨λa w B=>wp_seq (wp_mono (h.run a w B) λe Y N ⟨u,⟨q⟩,A⟩=>by
 cases e with
 |normal=>exact AWp.run q Y N A
 |_=>exact⟨u,q,A⟩)⟩
theorem AWp.block{id:Nat}{c:Code}(h:AWp P s0 n c (ABlock id Q) σ):AWp P s0 n (.block id c) Q σ:=⟨λa w B=>wp_block (wp_mono (h.run a w B) λe Y N ⟨u,⟨q⟩,A⟩=>by
 cases e with
 |exit j=>
  show if j=id then GR s0 n Q .normal Y N else GR s0 n Q (.exit j) Y N
  have q:if j=id then Q .normal u else Q (.exit j) u:=q
  split
  .rename_i X;rw[Yao X]at q;exact⟨u,q,A⟩
  .rename_i X;rw[Yaj X]at q;exact⟨u,q,A⟩
 |_=>exact⟨u,q,A⟩)⟩
theorem Hl(h:Q .normal σ):AWp P s0 n .skip Q σ:=⟨λ_ _ a=>wp_skip ⟨σ,h,a⟩⟩
theorem Cc{id:Nat}(h:Q (.exit id) σ):AWp P s0 n (.exit id) Q σ:=⟨λ_ _ a=>wp_exit ⟨σ,h,a⟩⟩
theorem BR(h:Q .ret σ):AWp P s0 n .ret Q σ:=⟨λ_ _ a=>wp_ret ⟨σ,h,a⟩⟩
theorem St.exD(C:σ.arg x=.d (ex z)){a:Act}(q:St s0 n σ a w):a.eval x=z:=by
 obtain⟨s,V,rfl,h⟩:=q;have:=h.arg x;exact Zjm
theorem Qd(G:σ.arg x=.d (eB true))(h:AWp P s0 n vp Q σ):AWp P s0 n (.cond x vp ud) Q σ:=⟨λa w q=>wp_cond_true (q.exD G) (h.run a w q)⟩
theorem Qe(G:σ.arg x=.d (eB false))(h:AWp P s0 n ud Q σ):AWp P s0 n (.cond x vp ud) Q σ:=⟨λa w q=>wp_cond_false (q.exD G) (h.run a w q)⟩
theorem JC(G:σ.arg x=.d (eB o))(L:o=true)(h:AWp P s0 n vp Q σ):AWp P s0 n (.cond x vp ud) Q σ:=Qd (by rw[G,L]) h
theorem Ig(G:σ.arg x=.d (eB o))(L:o=false)(h:AWp P s0 n ud Q σ):AWp P s0 n (.cond x vp ud) Q σ:=Qe (by rw[G,L]) h
theorem FQ(G:σ.arg x=.d (eB o))(L:o=true->AWp P s0 n vp Q σ)(p:o=false->AWp P s0 n ud Q σ):AWp P s0 n (.cond x vp ud) Q σ:=by
 cases o with
 |true=>exact Qd G (L rfl)
 |false=>exact Qe G (p rfl)
def AS.le(x y:AS):Prop:=∀s0 n a w,St s0 n x a w->St s0 n y a w
theorem CT{c:Code}{σ':AS}(I:AS.le σ σ')(h:AWp P s0 n c Q σ'):AWp P s0 n c Q σ:=⟨λa w q=>h.run a w (I _ _ _ _ q)⟩
theorem Bi{l:List Oper}{σ':AS}(I:AS.le σ σ')(h:AWl P s0 n ua Q l σ'):AWl P s0 n ua Q l σ:=⟨λa w q=>h.run a w (I _ _ _ _ q)⟩
def Abx(I:Nat->AS->Prop)(m:Nat)(Q:Exit->AS->Prop):Exit->AS->Prop
 |.normal,σ=>∃x,x<m/\∃u,I x u/\AS.le σ u
 |e,σ=>Q e σ
structure ALoop(I:Nat->AS->Prop)(m:Nat)(Q:Exit->AS->Prop)(e:Exit)(σ:AS):Prop where
 run:Abx I m Q e σ
theorem AC{c:Code}(I:Nat->AS->Prop){m:Nat}{σ':AS}(q:AS.le σ σ')(B:I m σ')(round:∀m σ,I m σ->AWp P s0 n c (ALoop I m Q) σ):AWp P s0 n (.loop c) Q σ:=by
 refine⟨λa w A b k f=>?_⟩
 have key:∀(m:Nat) (a:Act) (w:World) (σ:AS),I m σ->St s0 n σ a w->∃e Y N,GR s0 n Q e Y N/\Arrives P (lone (b.at a (.code c::.inLoop c::k)) f w) b k f e Y N:=by
  intro m
  induction m using Nat.strongRecOn with
  |_ m G=>
   intro a w σ F u;obtain⟨e,K,E,⟨W,⟨C⟩,j⟩,S⟩:=(round m σ F).run a w u b (.inLoop c::k) f
   cases e with
   |normal=>
    obtain⟨x,O,X,M,i⟩:=C;obtain⟨o,L,J,V,Z⟩:=G x O K E X M (i _ _ _ _ j);exact⟨o,L,J,V,.of_steps (Steps.trans S (.one step_inLoop)) Z⟩
   |exit id=>exact ZjP
   |goto l=>exact ZjP
   |ret=>exact ZjP
   |panic d=>exact ZjP
   |outgrown=>exact ZjP
 obtain⟨e,Y,N,C,S⟩:=key m a w σ' B (q _ _ _ _ A);exact⟨e,Y,N,C,.of_steps (.one step_loop) S⟩
end
def WL(k:Option Tmp)(n:Nat):Bool:=match k with | some d=>Nat.blt d n | none=>true
theorem JJ{n:Nat}(h:WL vz n=true):∀d,vz=some d->d<n:=λd q=>by subst q;exact by simpa[WL,Ybq]using h
section
variable {P:Program} {s0:An} {n:Nat} {ops:Array Oper} {Q:Exit->AS->Prop} {rest:List Oper} {o:Oper} {σ:AS}
theorem AWp.region{id:Nat}{l:List Oper}(h:AWl P s0 n l.toArray Q l σ):AWp P s0 n (.region id l.toArray false) Q σ:=⟨λa w q=>wp_region_lit (h.run a w q)⟩
theorem AWl.nil(h:Q .normal σ):AWl P s0 n ops Q [] σ:=⟨λ_ _ a=>⟨σ,h,a⟩⟩
theorem AWl.step(R:o.guard=none)(h:∀(s:GS) (V:Nat->Value) (a:Act),StI s0 n σ a s V->∀K:Act->World->Prop,(∀B Y N,AWl P s0 n ops Q rest B->St s0 n B Y N->K Y N)->o.wp P a s.w K (GR s0 n Q)):AWl P s0 n ops Q (o::rest) σ:=by
 refine⟨λa w ⟨s,V,c,u⟩=>?_⟩;subst c;exact wpList_plain R λK g=>h s V a u K λB Y N q A=>g Y N (q.run Y N A)
theorem A00{j:Nat}{q:Bool}(R:o.guard=some (j,q))(M:(ops[j]?).bind (·.dst)=some b)(I:Ce σ.fr b=some (.d (eB q)))(h:∀(s:GS) (V:Nat->Value) (a:Act),StI s0 n σ a s V->∀K:Act->World->Prop,(∀E Y N,AWl P s0 n ops Q rest E->St s0 n E Y N->K Y N)->o.wp P a s.w K (GR s0 n Q))(d:b<n):AWl P s0 n ops Q (o::rest) σ:=by
 refine⟨λa w ⟨s,V,c,u⟩=>?_⟩;subst c;refine wpList_step λK g=>?_;have W:a.tmps.getD b undef=.bool q:=u.fr b _ I;have i:b<a.tmps.size:=by rw[u.sz];exact d
 have C:a.tmps[b]? = some (.bool q):=by
  rw[YaA,YaF i]at W;rw[YaF i];exact congrArg some W
 rw[Yao (by simp[Region.wanted,R,yielded,M,C])];exact h s V a u K λE Y N A B=>g Y N (A.run Y N B)
def isB:Value->Bool->Bool
 |.bool c,b=>c==b
 |_,_=>false
theorem A6d{b:Bool}(h:isB z b=false):z≠.bool b:=λe=>by
 rw[e]at h;simp[isB]at h
theorem A4K{j:Nat}{q:Bool}(R:o.guard=some (j,q))(M:(ops[j]?).bind (·.dst)=some b)(I:Ce σ.fr b=some (.d (ex z)))(C:isB z q=false)(d:b<n)(i:WL o.dst n=true)(h:AWl P s0 n ops Q rest (σ.put o.dst (.d (ex undef)))):AWl P s0 n ops Q (o::rest) σ:=by
 refine⟨λa w ⟨s,V,B,u⟩=>?_⟩;subst B;refine wpList_step λK g=>?_;have W:a.tmps.getD b undef=z:=u.fr b _ I;have l:b<a.tmps.size:=by rw[u.sz];exact d
 have A:a.tmps[b]? = some z:=by
  rw[YaA,YaF l]at W;rw[YaF l];exact congrArg some W
 have v:z≠.bool q:=A6d C
 rw[Yaj (by
  simp only[Region.wanted,R,yielded,M,YdT,A,YcI];split
  .rename_i c G
   cases G;exact λe=>v (by rw[Yag e])
  .simp)]
 exact g _ _ (h.run _ _ ⟨s,V,rfl,u.put (GS.Le.refl s) (JJ i) rfl⟩)
theorem Se(A:BN o.op=true)(d:WL o.dst n=true)(m:Quiet P σ.hp o σ.arg h)(q:AWl P s0 n ops Q rest (σ.put o.dst h)):∀(s:GS) (V:Nat->Value) (a:Act),StI s0 n σ a s V->∀K:Act->World->Prop,(∀C B N,AWl P s0 n ops Q rest C->St s0 n C B N->K B N)->o.wp P a s.w K (GR s0 n Q):=
 λs V a u K g=>RegG.opStep_wp A (λ_ _=>rfl) (m.run 0 s V a.eval u.ok (Yay _) u.hp λx _=>u.arg x) λv j ⟨I,Y⟩=>g _ _ _ q ⟨j,V,rfl,u.put I (JJ d) Y⟩
theorem A4L(R:o.guard=none)(a:BN o.op=true)(d:WL o.dst n=true)(m:Quiet P σ.hp o σ.arg h)(q:AWl P s0 n ops Q rest (σ.put o.dst h)):AWl P s0 n ops Q (o::rest) σ:=AWl.step R (Se a d m q)
theorem A25{j:Nat}{A:Bool}(R:o.guard=some (j,A))(M:(ops[j]?).bind (·.dst)=some b)(I:Ce σ.fr b=some (.d (eB A)))(L:b<n)(a:BN o.op=true)(d:WL o.dst n=true)(m:Quiet P σ.hp o σ.arg h)(q:AWl P s0 n ops Q rest (σ.put o.dst h)):AWl P s0 n ops Q (o::rest) σ:=A00 R M I (Se a d m q) L
end
section
variable {s0:An} {n:Nat} {σ:AS} {a:Act} {s:GS} {ρ:Nat->Value}
theorem Cu{i:Nat}{o:Ow}(h:H[i]? = some o):i<H.length:=(Yae.1 h).1
theorem OwR.mono{base m N i:Nat}(h:OwR base m ρ s i vs)(v:m<=N)(M:∀j,j<m->vh j=ρ j)(J:i<m):OwR base N vh s i vs:=by
 cases vs with
 |dead=>trivial
 |var T cells=>
  obtain⟨b,f,q,A,K,Q,C,G,g⟩:=h;refine⟨b,f,(M i J).trans q,A,K,Q,C,G,λk L B=>?_⟩;obtain⟨u,x,S,X⟩:=g k L B;exact⟨u,x,S,X.mono v M⟩
 |row T E I=>
  unfold OwR;rw[M i J];exact h
 |obj O=>
  unfold OwR;rw[M i J];exact h
 |pin l=>exact λp F=>(h p F).mono v M
theorem OwR.keep{base m i:Nat}{s':GS}(h:OwR base m ρ s i vs)(G:GS.Chg s s')(E:∀b,OwB s (ρ i) vs b->s'.w.heap[b]? = s.w.heap[b]? /\ ∀k,s'.S b k↔s.S b k):OwR base m ρ s' i vs:=by
 cases vs with
 |dead=>trivial
 |var T cells=>
  obtain⟨b,f,q,A,K,Q,C,J,N⟩:=h;obtain⟨W,o⟩:=E b (show DR (ρ i)=some b by rw[q];rfl);refine⟨b,f,q,A,W.trans K,Q,C,λk B=>J k ((o k).1 B),λk M B=>?_⟩;obtain⟨u,x,V,Y⟩:=N k M B;exact⟨u,x,V,Y.chg G⟩
 |row T I L=>
  obtain⟨S,⟨q,A⟩,K,Q,C,J⟩:=h;refine⟨S,⟨q,?_⟩,K,Q,λb Z k=>((E b Z).2 k).trans (C b Z k),λk B=>⟨(J k B).1,λj X=>?_⟩⟩
  .rcases A with A | ⟨g,cap,cur,W,o,e3,e4⟩
   .exact .inl A
   .exact .inr ⟨g,cap,cur,W,o,(E g (show DR (ρ i)=some g by rw[W];rfl)).1.trans e3,e4⟩
  .obtain ⟨u,x,V,Y⟩:=(J k B).2 j X
   exact⟨u,x,V,(Dd _ j).st Y G⟩
 |obj O=>exact(O.keep h G E).1
 |pin l=>exact λp F=>(h p F).chg G
theorem StI.newG(h:StI s0 n σ a s ρ){C:GS}(I:GS.Le s C)(B:∀d,vz=some d->d<n){v u:Value}{r:AV}{ow:Ow}(Y:AVr (σ.hp.length+1) (λi=>if i=σ.hp.length then u else ρ i) C r v)
  (F:OwR 0 (σ.hp.length+1) (λi=>if i=σ.hp.length then u else ρ i) C σ.hp.length ow) (E:∀b,OwB C u ow b->∀i o,σ.hp[i]? = some o->¬OwB s (ρ i) o b) (G:∀b,OwB C u ow b->s0.mine b\/s0.g.w.heap.size<=b) :
  StI s0 n { fr:=(σ.put vz r).fr,hp:=σ.hp++[ow] } (a.put vz v) C (λi=>if i=σ.hp.length then u else ρ i):=by
 have S:∀j,j<σ.hp.length->(if j=σ.hp.length then u else ρ j)=ρ j:=λj X=>Yaj ZbC;have Q:(σ.hp++[ow]).length=σ.hp.length+1:=by simp
 have key:∀i o,(σ.hp++[ow])[i]? = some o->∀b,OwB C (if i=σ.hp.length then u else ρ i) o b->(i<σ.hp.length/\σ.hp[i]? = some o/\OwB s (ρ i) o b)\/(i=σ.hp.length/\o=ow/\OwB C u ow b):=λi o J b Z=>by
  rw[YaQ]at J;split at J
  .rename_i O
   rw[Yaj ZbC]at Z;exact .inl ⟨O,J,OwB.le (h.hp i o J) I Z⟩
  .rename_i W
   have:i=σ.hp.length:=by
    have:=Cu J;simp at this;omega
   subst this;simp at J;subst J;rw[Yao rfl]at Z;exact .inr ⟨rfl,rfl,Z⟩
 refine⟨h.le.trans I,I.ok h.ok,λt N L=>?_,?_,?_,λi o J=>?_,λi j o x V J X b Z c=>?_,λi o b J Z=>?_⟩
 .show AVr (σ.hp++[ow]).length _ C N _
  rw[Q]
  cases vz with
  |none=>exact((h.fr t N L).chg I.chg).mono (Yej _) S
  |some d=>
   replace L:Ce ((d,r)::σ.fr) t=some N:=L;rw[CX]at L;simp only[Act.put];by_cases e:d=t
   .rw [Yao e]at L
    cases L;subst e;have:d<a.tmps.size:=by rw[h.sz];exact B d rfl
    simp[this];exact Y
   .rw [Yaj e]at L
    have:=((h.fr t N L).chg I.chg).mono (Yej _) S;rw[YaA]at this ⊢;rwa [YaP e]
 .unfold Act.put;split<;>simp[h.sz]
 .unfold Act.put;split<;>simp[h.df]
 .show OwR 0 (σ.hp++[ow]).length _ C i o
  rw[Q];rw[YaQ]at J;split at J
  .rename_i O
   exact((h.hp i o J).le I).mono (Yej _) S O
  .rename_i W
   have:i=σ.hp.length:=by
    have:=Cu J;simp at this;omega
   subst this;simp at J;subst J;exact F
 .rcases key i o J b Z with⟨q,A,K⟩ | ⟨q,A,K⟩<;>rcases key j x X b c with⟨k,M,g⟩ | ⟨k,M,g⟩
  .exact h.sep i j o x V A M b K g
  .exact E b g i o A K
  .exact E b K j x M g
  .omega
 .rcases key i o J b Z with⟨q,A,K⟩ | ⟨q,A,K⟩
  .exact h.own i o b A K
  .exact G b K
theorem StI.new(h:StI s0 n σ a s ρ){j:GS}(I:GS.Le s j){dst:Option Tmp}(q:∀d,dst=some d->d<n){v u:Value}{r:AV}{ow:Ow}(Y:AVr (σ.hp.length+1) (λi=>if i=σ.hp.length then u else ρ i) j r v)
  (A:OwR 0 (σ.hp.length+1) (λi=>if i=σ.hp.length then u else ρ i) j σ.hp.length ow) (E:∀b,OwB j u ow b->s.w.heap.size<=b) :
  StI s0 n { fr:=(σ.put dst r).fr,hp:=σ.hp++[ow] } (a.put dst v) j (λi=>if i=σ.hp.length then u else ρ i):=by
 refine h.newG I q Y A (λb C i o J M=>?_) λb C=>.inr (Yau h.le.size (E b C));have:=(h.hp i o J).blk_lt0 M;exact absurd (E b C) ZbC
end
section
variable {P:Program} {s0:An} {n:Nat} {ops:Array Oper} {Q:Exit->AS->Prop} {rest:List Oper} {o:Oper} {σ:AS}
theorem IM(t:TypeId)(v:Value)(w:World):(newVar t v).run P w=.ok ⟨w.heap.size,0,none⟩ (w.alloc (.cells v.cells t)):=rfl
def AS.new(σ:AS)(dst:Option Tmp)(r:AV)(ow:Ow):AS:={ fr:=(σ.put dst r).fr,hp:=σ.hp++[ow] }
def exs(l:List Value):List AV:=l.map λu=>.d (ex u)
def Ih(l:List Value):Bool:=l.all (·.oneCell')
theorem AWl.alloc{T:TypeId}{d:TypeDesc}{m b:Nat}(G:o.op=.alloc T)(R:o.guard=none)(L:Tab P T d m b z)(e:T≠335)(q:Ih z.cells.toList=true)(A:WL o.dst n=true)(h:AWl P s0 n ops Q rest (σ.new o.dst (.ptr σ.hp.length 0) (.var T (exs z.cells.toList)))):AWl P s0 n ops Q (o::rest) σ:=by
 refine AWl.step R λs V a F K g=>?_
 have J:(execOp a.eval o).run P s.w=.ok (.value (.pointer (some ⟨s.w.heap.size,0,none⟩))) (s.w.alloc (.cells z.cells T)):=by
  simp[execOp,G,Instr.alloc,L.run_zero,IM]
 unfold Oper.wp;rw[J];refine g _ _ _ h ⟨s.mk' z.cells T 0,_,rfl,F.new (s.le_mk' z.cells T 0 e) (JJ A) (u:=.pointer (some ⟨s.w.heap.size,0,none⟩)) ⟨by omega,s.w.heap.size,by simp,rfl⟩ ?_ λb E=>by cases E;exact Yai _⟩;refine⟨s.w.heap.size,z.cells,by simp,Yay _,heap_alloc_new s.w _,by simp[exs],e,λk B=>absurd (F.ok.lt _ _ B) (Ycm _),λk I B=>?_⟩;unfold exs at B;rw[Yav]at B
 cases C:z.cells.toList[k]? with
 |none=>rw[C]at B;cases B
 |some u=>
  rw[C]at B;cases B;exact⟨u,by simpa using C,Yah.1 q u (Yaz C),rfl⟩
theorem AWl.box(N:o.op=.box t x)(R:o.guard=none)(C:σ.arg x=.d (AP v))(e:t≠335)(d:WL o.dst n=true)(h:AWl P s0 n ops Q rest (σ.new o.dst (.ptr σ.hp.length 0) (.var t (v.map .d)))):AWl P s0 n ops Q (o::rest) σ:=by
 refine AWl.step R λs V a L K g=>?_;have q:=L.arg x;rw[C]at q;obtain⟨f,W,A,F⟩:=q
 have m:(execOp a.eval o).run P s.w=.ok (.value (.pointer (some ⟨s.w.heap.size,0,none⟩))) (s.w.alloc (.cells f t)):=by
  simp only[execOp,N,W,Instr.box,Sem.run_bind,IM,Result.andThen_ok,Sem.run_pure];rfl
 unfold Oper.wp;rw[m];have i:=s.le_mk' f t 0 e;refine g _ _ _ h ⟨s.mk' f t 0,_,rfl,L.new i (JJ d) (u:=.pointer (some ⟨s.w.heap.size,0,none⟩)) ⟨by omega,s.w.heap.size,by simp,rfl⟩ ?_ λb E=>by cases E;exact Yai _⟩;refine⟨s.w.heap.size,f,by simp,Yay _,heap_alloc_new s.w _,by simp[A],e,λk B=>absurd (L.ok.lt _ _ B) (Ycm _),λk O B=>?_⟩;rw[Yav]at B
 cases J:v[k]? with
 |none=>rw[J]at B;cases B
 |some x=>
  rw[J]at B;cases B;have l:k<v.length:=(Yae.1 J).1;obtain⟨u,G,I,M⟩:=F k l;refine⟨u,G,I,?_⟩;have:Dd v k=x:=by simp[Dd,J]
  rw[this]at M;exact x.st M i.chg
theorem A7B{u:Value}(F:o.op=.box t x)(R:o.guard=none)(C:σ.arg x=.d (ex u))(q:u.oneCell'=true)(e:t≠335)(d:WL o.dst n=true)(h:AWl P s0 n ops Q rest (σ.new o.dst (.ptr σ.hp.length 0) (.var t [.d (ex u)]))):AWl P s0 n ops Q (o::rest) σ:=by
 refine AWl.step R λs V a A K g=>?_;have W:a.eval x=u:=St.exD C ⟨s,V,rfl,A⟩;have I:u.cells=#[u]:=by cases u<;>first | rfl | cases q
 have m:(execOp a.eval o).run P s.w=.ok (.value (.pointer (some ⟨s.w.heap.size,0,none⟩))) (s.w.alloc (.cells #[u] t)):=by
  simp only[execOp,F,W,Instr.box,Sem.run_bind,IM,Result.andThen_ok,Sem.run_pure,I]
 unfold Oper.wp;rw[m];refine g _ _ _ h ⟨s.mk' #[u] t 0,_,rfl,A.new (s.le_mk' #[u] t 0 e) (JJ d) (u:=.pointer (some ⟨s.w.heap.size,0,none⟩)) ⟨by omega,s.w.heap.size,by simp,rfl⟩ ?_ λb E=>by cases E;exact Yai _⟩;refine⟨s.w.heap.size,#[u],by simp,Yay _,heap_alloc_new s.w _,by simp,e,λk B=>absurd (A.ok.lt _ _ B) (Ycm _),λk G B=>?_⟩
 cases k with
 |zero=>cases B;exact⟨u,by simp,q,rfl⟩
 |succ k=>cases B
end
def Ow.mapA(f:AV->AV):Ow->Ow
 |.var T cells=>.var T (cells.map f)
 |.pin l=>.pin (l.map λp=>(p.1,f p.2))
 |o=>o
theorem A7f{f:AV->AV}{b:Nat}:OwB s z (vs.mapA f) b↔OwB s z vs b:=by cases vs<;>exact Ydt
theorem YJ(f:AV->AV):∀(l:List (Nat×AV)) (t:Nat),Ce (l.map λp=>(p.1,f p.2)) t=(Ce l t).map f
 |[],t=>rfl
 |p::r,t=>by
  rw[Ybb];obtain⟨a,G⟩:=p;rw[CX,CX,YJ f r t];split<;>rfl
section
variable {s0:An} {n:Nat} {σ:AS} {a:Act} {s:GS} {ρ:Nat->Value}
theorem StI.upd(h:StI s0 n σ a s ρ){s':GS}(xb:GS.LeX s0.mine s0.g s')(r:s'.Ok)(I:GS.Chg s s'){id:Nat}{o o':Ow}{ρ':Nat->Value}{f:AV->AV}(K:σ.hp[id]? = some o)
  (xg:∀b,b<s.w.heap.size->¬OwB s (ρ id) o b->s'.w.heap[b]? = s.w.heap[b]? /\ ∀k,s'.S b k↔s.S b k) (xc:∀j,j≠id->ρ' j=ρ j)
  (xh:OwR 0 σ.hp.length ρ' s' id o') (xn:∀b,OwB s' (ρ' id) o' b->OwB s (ρ id) o b\/s.w.heap.size<=b) (Z:∀w v,AVr σ.hp.length ρ s w v->AVr σ.hp.length ρ' s' (f w) v) :
  StI s0 n { fr:=σ.fr.map λp=>(p.1,f p.2),hp:=(σ.hp.map (Ow.mapA f)).set id o' } a s' ρ':=by
 have H:((σ.hp.map (Ow.mapA f)).set id o').length=σ.hp.length:=by simp
 have xe:∀i x,((σ.hp.map (Ow.mapA f)).set id o')[i]? = some x->(i=id/\x=o')\/(i≠id/\∃y,σ.hp[i]? = some y/\x=y.mapA f):=λi x E=>by
  rw[YbM]at E;split at E
  .rename_i e
   split at E
   .cases E;exact .inl ⟨e.symm,rfl⟩
   .cases E
  .rename_i e
   rw[Yav]at E
   cases N:σ.hp[i]? with
   |none=>rw[N]at E;cases E
   |some y=>rw[N]at E;cases E;exact .inr ⟨λe'=>e e'.symm,y,rfl,rfl⟩
 have xo:∀i y,i≠id->σ.hp[i]? = some y->∀b,OwB s (ρ i) y b->b<s.w.heap.size/\¬OwB s (ρ id) o b:=λi y U N b F=>⟨(h.hp i y N).blk_lt0 F,h.sep i id y o U N K b F⟩;have c:∀i y,i≠id->σ.hp[i]? = some y->∀b,OwB s (ρ i) y b->s'.w.heap[b]? = s.w.heap[b]? /\ ∀k,s'.S b k↔s.S b k:=λi y U N b F=>xg b (xo i y U N b F).1 (xo i y U N b F).2;have xk:∀i y,i≠id->σ.hp[i]? = some y->∀b,OwB s' (ρ' i) (y.mapA f) b->OwB s (ρ i) y b:=λi y U N b F=>OwB.keep (h.hp i y N) I (c i y U N) (by rw[<-xc i U];exact A7f.1 F);refine⟨xb,r,λt w M=>?_,h.sz,h.df,λi x E=>?_,λi j x y xd E N b xj xf=>?_,λi x b E F=>?_⟩
 .show AVr ((σ.hp.map (Ow.mapA f)).set id o').length ρ' s' w _
  rw[H];rw[YJ]at M
  cases J:Ce σ.fr t with
  |none=>rw[J]at M;cases M
  |some xm=>
   rw[J]at M;cases M;exact Z _ _ (h.fr t xm J)
 .show OwR 0 ((σ.hp.map (Ow.mapA f)).set id o').length ρ' s' i x
  rw[H];rcases xe i x E with⟨rfl,rfl⟩ | ⟨U,y,N,rfl⟩
  .exact xh
  .have xl:=h.hp i y N
   cases y with
   |dead=>trivial
   |var T cells=>
    obtain⟨b,S,A,B,L,Q,V,d,z⟩:=xl;obtain⟨R,e4⟩:=c i _ U N b (show DR (ρ i)=some b by rw[A];rfl);refine⟨b,S,(xc i U).trans A,B,R.trans L,by simpa using Q,V,λk C=>d k ((e4 k).1 C),λk w C=>?_⟩;rw[Yav]at C
    cases xi:cells[k]? with
    |none=>rw[xi]at C;cases C
    |some xm=>
     rw[xi]at C;cases C;obtain⟨u,P,h9,xa⟩:=z k xm xi;exact⟨u,P,h9,Z _ _ xa⟩
   |row T X g=>
    have:=xl.keep I (c i _ U N);unfold OwR at this;show OwR 0 σ.hp.length ρ' s' i (.row T X g);unfold OwR;rw[xc i U];exact this
   |obj O=>
    have:=xl.keep I (c i _ U N);show O.rel s' (ρ' i);rw[xc i U];exact this
   |pin l=>
    intro p G;obtain⟨q,m,rfl⟩:=YaD.1 G;exact Z _ _ (xl q m)
 .rcases xe i x E with⟨rfl,rfl⟩ | ⟨U,x0,hx0,rfl⟩<;>rcases xe j y N with⟨rfl,rfl⟩ | ⟨hne',y0,hy0,rfl⟩
  .exact xd rfl
  .obtain ⟨W,Y⟩:=xo j _ hne' hy0 b (xk j _ hne' hy0 b xf)
   rcases xn b xj with A | A
   .exact Y A
   .omega
  .obtain ⟨W,Y⟩:=xo i _ U hx0 b (xk i _ U hx0 b xj)
   rcases xn b xf with A | A
   .exact Y A
   .omega
  .exact h.sep i j x0 y0 xd hx0 hy0 b (xk i _ U hx0 b xj) (xk j _ hne' hy0 b xf)
 .rcases xe i x E with⟨rfl,rfl⟩ | ⟨U,x0,hx0,rfl⟩
  .rcases xn b F with A | A
   .exact h.own _ o b K A
   .exact .inr (Yau h.le.size A)
  .exact h.own i x0 b hx0 (xk i _ U hx0 b F)
end
theorem Lz(l:List (Nat×AV)):(l.map λp=>(p.1,(λx=>x) p.2))=l:=by simp
theorem IF:∀l:List Ow,l.map (Ow.mapA λx=>x)=l
 |[]=>rfl
 |o::l=>by rw[Ybb,IF l];cases o<;>simp[Ow.mapA]
def One(F:List Ow)(G:AV):Prop:=∀base V s v,HpOk base V s F->AVr F.length V s G v->v.oneCell'=true
theorem CP(h:z.oneCell'=true):One H (.d (ex z)):=λ_ _ _ v _ r=>by have:v=z:=r;rw[this];exact h
theorem One.sl{T sz:Nat}:One H (.d (slD T sz vk)):=λ_ _ _ v _ ⟨A,c,r,_⟩=>by rw[r];rfl
theorem One.own{hp:List Ow}{i T sz:Nat}(h:hp[i]? = some (.row T sz vk)):One hp (.own i):=λbase V s v n ⟨_,r⟩=>by
 obtain⟨j,⟨_,A⟩,_⟩:=n i _ h;rcases A with⟨W,_⟩ | ⟨g,cap,cur,W,_⟩
 .rw [r,W];rfl
 .rw [r,W];rfl
theorem A6O{p:Addr}{b:Nat}(h:Ty (w.setCell p z) b t):Ty w b t:=by
 obtain⟨q,K,h⟩:=h;by_cases E:b=p.block
 .simp only[World.setCell,YdN,E,if_true]at h
  cases s:w.heap[p.block]? with
  |none=>rw[s]at h;cases h
  |some o=>
   rw[s]at h
   cases o with
   |cells c e f=>
    simp at h;exact⟨c,f,by rw[E,s];rw[h.2.1]⟩
   |_=>simp at h
 .rw [Below.heap_setCell _ _ _ _ E]at h
  exact⟨q,K,h⟩
theorem KW{s s':GS}(h:s.Ok)(p:∀b k,s'.S b k->s.S b k)(v:s.w.heap.size<=s'.w.heap.size)(m:∀b k,s.S b k->s'.S b k)(L:∀b,Ty s'.w b 335->Ty s.w b 335):s'.Ok:=
 ⟨λb k E=>Yaq (h.lt b k (p b k E)) v,λb k E=>m b k (h.safe b k (L b E))⟩
section
variable {P:Program} {s0:An} {n:Nat} {ops:Array Oper} {Q:Exit->AS->Prop} {rest:List Oper} {o:Oper} {σ:AS}
theorem TG{d:TypeDesc}{b id off:Nat}(Z:o.op=.store t x y)(S:o.guard=none)(xl:o.dst=none)(E:σ.arg x=.ptr id off)(M:σ.arg y=h)(j:σ.hp[id]? = some (.var U R))(L:Tab P t d 1 b z)(A:One σ.hp h)(xn:off<R.length)(q:AWl P s0 n ops Q rest { fr:=σ.fr,hp:=σ.hp.set id (.var U (R.set off h)) }):AWl P s0 n ops Q (o::rest) σ:=by
 refine AWl.step S λs V a O K T=>?_;have xj:=O.arg x;have xk:=O.arg y;rw[E]at xj;rw[M]at xk;obtain⟨xc,g,xo,W⟩:=xj;obtain⟨g',f,B,I,J,N,X,i,l⟩:=O.hp id _ j;rw[xo]at B;cases B;have xi:=A _ _ _ _ O.hp xk;have p:s.w.cell? ⟨g,off,none⟩=some (f[off]'(ZbC)):=(CU J).trans (YaF _);have xe:s.w.frozen? ⟨g,off,none⟩=false:=Blk.frozen J off;have xm:(a.eval y).cells=#[a.eval y]:=by cases r:a.eval y<;>first | rfl | (rw[r]at xi;cases xi)
 have xa:(execOp a.eval o).run P s.w=.ok .skip (s.w.setCell ⟨g,off,none⟩ (a.eval y)):=by
  have w:(store ⟨g,off,none⟩ (a.eval y)).run P s.w=.ok () (s.w.setCell ⟨g,off,none⟩ (a.eval y)):=by
   cases r:a.eval y<;>first | (rw[r]at xi;cases xi;done) | simp[store,Sem.run,p,xe]
  simp[execOp,Z,W,Instr.storeAt,Instr.sureAddr,storeVar,xm,L.run_size,storeCells,Addr.add_lit,w]
 unfold Oper.wp;rw[xa];have xg:∀b,b≠g->(s.w.setCell ⟨g,off,none⟩ (a.eval y)).heap[b]? = s.w.heap[b]?:=λb F=>Below.heap_setCell _ _ _ _ F;have xh:(s.w.setCell ⟨g,off,none⟩ (a.eval y)).heap[g]? = some (.cells (f.setIfInBounds off (a.eval y)) U (0,0)):=Blk.set J off _;have Y:GS.Ok { s with w:=s.w.setCell ⟨g,off,none⟩ (a.eval y) }:=KW O.ok (λ_ _ q=>q) (by show _<=(s.w.setCell _ _).heap.size;simp[World.setCell]) (λ_ _ q=>q) λb F=>A6O F
 have G : GS.Chg s { s with w := s.w.setCell ⟨g, off, none⟩ (a.eval y) } := ⟨by show _ ≤ (s.w.setCell _ _).heap.size; simp [World.setCell], fun _ _ q => q, fun b c t m F => by
  by_cases e:b=g
  .subst e
   rw[J]at F;cases F;exact⟨_,_,xh,λk C=>absurd C (i k)⟩
  .exact ⟨c,m,(xg b e).trans F,λ_ _=>rfl⟩⟩
 have xf := O.upd (s' := { s with w := s.w.setCell ⟨g, off, none⟩ (a.eval y) }) (ρ' := V) (f := fun x => x) (o' := .var U (R.set off h)) (O.le.turn (O.own id _ g j (show DR (V id) = some g by rw [xo]; rfl)) rfl rfl rfl (fun b _ F => ⟨xg b F, fun _ q => q⟩) G (fun _ _ => rfl) fun _ => Y) Y G j (fun b _ F => ⟨xg b fun e => F (show DR (V id) = some b by rw [xo, e]; rfl), fun _ => Ydt⟩) (fun _ _ => rfl)
  ⟨g, _, xo, I, xh, by simpa using N, X, i, fun k xp C => by
   rw[YbM]at C;split at C
   .rename_i e
    subst e;obtain rfl:xp=h:=by first | exact(Yag C).symm | (rw[Yao xn]at C;exact(Yag C).symm)
    exact⟨_,by simp[N,xn],xi,xk.chg G⟩
   .rename_i e
    obtain⟨u,H,xb,xd⟩:=l k xp C;exact⟨u,by rw[YaP e];exact H,xb,xd.chg G⟩⟩ (λb F=>.inl F) λh v q=>q.chg G
 rw[Lz,IF]at xf;exact T _ _ _ q (by rw[xl];exact⟨_,V,rfl,xf⟩)
def Kx(cells:List AV)(off:Nat)(S:List AV):List AV:=cells.take off++(S++cells.drop (off+S.length))
theorem A0o{off:Nat}(h:off+ut.length<=R.length)(k:Nat):(Kx R off ut)[k]? = if off<=k/\k<off+ut.length then ut[k-off]? else R[k]?:=by
 unfold Kx;rw[YaQ];have q:(R.take off).length=off:=ZiI
 rw[q];split
 .rename_i O
  rw[Yaj ZbC,YaK,Yao O]
 .rename_i S
  rw[YaQ];split
  .rename_i O
   rw[Yao ZbC]
  .rename_i m
   rw[Yaj ZbC,YbT];exact Zhl
theorem TF{d:TypeDesc}{b id off m:Nat}(l:o.op=.store t x y)(Z:o.guard=none)(xr:o.dst=none)(C:σ.arg x=.ptr id off)(M:σ.arg y=.d (AP v))(T:σ.hp[id]? = some (.var U R))(L:Tab P t d m b z)(Y:v.length=m)(xu:off+m<=R.length)(h:AWl P s0 n ops Q rest { fr:=σ.fr,hp:=σ.hp.set id (.var U (Kx R off (v.map .d))) }):AWl P s0 n ops Q (o::rest) σ:=by
 refine AWl.step Z λs V a X K hK=>?_;have xp:=X.arg x;have xq:=X.arg y;rw[C]at xp;rw[M]at xq;obtain⟨xf,g,xw,J⟩:=xp;obtain⟨g',f,A,F,I,N,i,H,h8⟩:=X.hp id _ T;rw[xw]at A;cases A;obtain⟨w,S,xl,xt⟩:=xq
 have xz:∀q∈w.toList,q.oneCell'=true:=λq r=>by
  obtain⟨k,B,rfl⟩:=YcM r;simp at B;obtain⟨u,h9,xc,_⟩:=xt k ZbC;rw[YaF B]at h9;cases h9;simpa using xc
 have xn:w.toList.length=m:=by simp[xl,Y]
 have xs:=run_storeCells_at P g off U w.toList 0 f s.w I ZbC xz;simp only[Ybf]at xs;obtain⟨W,hW⟩:∃W,W=s.w.setRow g (f.toList.take off++w.toList++f.toList.drop (off+w.toList.length)).toArray:=⟨_,rfl⟩;rw[<-hW]at xs
 have xd:(execOp a.eval o).run P s.w=.ok .skip W:=by
  simp[execOp,l,J,S,Instr.storeAt,Instr.sureAddr,storeVar,Value.cells,xl,Y,L.run_size,xs]
 unfold Oper.wp;rw[xd];have xj:∀b,b≠g->W.heap[b]? = s.w.heap[b]?:=λb E=>by rw[hW];exact ZjQ
 have xk:W.heap[g]? = some (.cells (f.toList.take off++w.toList++f.toList.drop (off+w.toList.length)).toArray U (0,0)):=by rw[hW];exact setRow_heap s.w g f _ U _ I
 have xa:W.heap.size=s.w.heap.size:=by rw[hW];simp[World.setRow]
 have j : GS.Ok { s with w := W } := KW X.ok (fun _ _ h => h) Zex (fun _ _ h => h) fun b ⟨c, fz, E⟩ => by
  by_cases e:b=g
  .subst e
   have E:W.heap[b]? = _:=E;rw[xk]at E;cases E;exact absurd rfl i
  .exact ⟨c,fz,(xj b e).symm.trans E⟩
 have G : GS.Chg s { s with w := W } := ⟨by show _ ≤ W.heap.size; omega, fun _ _ h => h, fun b c t fz E => by
  by_cases e:b=g
  .subst e
   rw[I]at E;cases E;exact⟨_,_,xk,λk B=>absurd B (H k)⟩
  .exact ⟨c,fz,(xj b e).trans E,λ_ _=>rfl⟩⟩
 have xx:off+(v.map AV.d).length<=R.length:=ZiI
 have xh := X.upd (s' := { s with w := W }) (ρ' := V) (f := fun x => x) (o' := .var U (Kx R off (v.map .d))) (X.le.turn (X.own id _ g T (show DR (V id) = some g by rw [xw]; rfl)) (by rw [hW]; rfl) (by rw [hW]; rfl) (by rw [hW]; rfl) (fun b _ E => ⟨xj b E, fun _ h => h⟩) G (fun _ _ => rfl) fun _ => j) j G T (fun b _ E => ⟨xj b fun e => E (show DR (V id) = some b by rw [xw, e]; rfl), fun _ => Ydt⟩) (fun _ _ => rfl)
  ⟨g, _, xw, F, xk, by simp [Kx]; omega, i, H, fun k xy B => by
   rw[A0o xx]at B
   have xi:(f.toList.take off++w.toList++f.toList.drop (off+w.toList.length)).toArray[k]? = if off<=k/\k<off+m then w[k-off]? else f[k]?:=by
    rw[YbH,Yaf,YaQ];have xb:(f.toList.take off).length=off:=ZiI
    rw[xb];split
    .rename_i O
     rw[Yaj ZbC,YaK,Yao O];simp
    .rename_i xm
     rw[YaQ];split
     .rename_i O
      rw[Yao ZbC];simp
     .rename_i xA
      rw[Yaj ZbC,YbT];simp;exact Zhl
   rw[xi];rw[Yap,Y]at B;split at B
   .rename_i xo
    rw[Yao xo];rw[Yav]at B
    cases xv:v[k-off]? with
    |none=>rw[xv]at B;cases B
    |some x=>
     rw[xv]at B;cases B;obtain⟨u,h9,xc,xe⟩:=xt (k-off) ZbC;refine⟨u,h9,xc,?_⟩;have:Dd v (k-off)=x:=by simp[Dd,xv]
     rw[this]at xe;exact x.st xe G
   .rename_i xo
    rw[Yaj xo];obtain⟨u,xc,xe,xg⟩:=h8 k xy B;exact⟨u,xc,xe,xg.chg G⟩⟩ (λb E=>.inl E) λp q h=>h.chg G
 rw[Lz,IF]at xh;exact hK _ _ _ h (by rw[xr];exact⟨_,V,rfl,xh⟩)
end
theorem PI{s0:An}(xb:GS.LeX s0.mine s0.g s)(S:s.Ok){t ty T l bytes:Nat}{d:TypeDesc}(L:P.underlying t=some (.slice T))(a:Tab P T d l bytes z)(xm:z.cells.size=l)(xo:T≠335)(G:0<l)
  {v:Value} {p:List Value} (xn:s.w.ownsRow 0 T l v k p) (xG:∀b,DR v=some b->s0.mine b\/s0.g.w.heap.size<=b) (x:∀b,DR v=some b->∀q,s.S b q↔q<k*l)
  (b o m c:Nat) (xc:List Value) (I:xc.length=m*l) (Q:0<m) (xH:∀j u,xc[j]? = some u->s.w.cell? ⟨b,o+j,none⟩=some u) (A:∀u∈xc,u.oneCell'=true) (xf:(k+m)*bytes<=140737488355328) (xl:k+m<=4611686018427387904) :
  ∃(V:Value) (K:GS),(Builtin.append_ #[t,t] ty #[v,.slice (some ⟨b,o,none⟩) m c]).run P s.w=.ok V K.w/\GS.LeX s0.mine s0.g K/\K.Ok/\GS.Chg s K/\K.w.ownsRow 0 T l V (k+m) (p++xc)/\(∀b,DR V=some b->∀q,K.S b q↔q<(k+m)*l) /\
   (∀b,b<s.w.heap.size->DR v≠some b->K.w.heap[b]? = s.w.heap[b]? /\ ∀q,K.S b q↔s.S b q)/\(∀b,DR V=some b->DR v=some b\/s.w.heap.size<=b):=by
 obtain⟨i,J,n,xr,xu⟩:=a.info;subst xr;subst xu;have xA:∀j u,xc[j]? = some u->s.w.cell? ((⟨b,o,none⟩:Addr).add j)=some u:=λj u X=>by rw[Addr.add_lit];exact xH j u X
 have w:(p++xc).length=(k+m)*i.size:=by rw[Yac,xn.1,I,YbG]
 have fresh:∀(cap:Nat) (arr:Array Value),k+m<=cap->cap<=maxLen->arr.size=cap*i.size->arr.toList.take ((k+m)*i.size)=p++xc->∃K:GS,K.w=s.w.drew.alloc (.cells arr T)/\GS.LeX s0.mine s0.g K/\K.Ok/\GS.Chg s K/\K.w.ownsRow 0 T i.size (.slice (some ⟨s.w.heap.size,0,none⟩) (k+m) cap) (k+m) (p++xc) /\
   (∀q,K.S s.w.heap.size q↔q<(k+m)*i.size)/\(∀b,b<s.w.heap.size->K.w.heap[b]? = s.w.heap[b]? /\ ∀q,K.S b q↔s.S b q):=by
  intro cap arr xk xe xv xE;have Z:Ext s.w (s.w.drew.alloc (.cells arr T)):=(Ext.refl _).drew.alloc _;have xi:(s.w.drew.alloc (.cells arr T)).heap[s.w.heap.size]? = some (.cells arr T (0,0)):=heap_alloc_new s.w.drew _;have H:(s.w.drew.alloc (.cells arr T)).heap.size=s.w.heap.size+1:=Yei ..;have O:∀q,¬s.S s.w.heap.size q:=λq B=>absurd (S.lt _ _ B) (Ycm _);have xw:∀b q,b<s.w.heap.size->((s.S b q\/(b=s.w.heap.size/\q<(k+m)*i.size))↔s.S b q):=λb q E=>⟨λh=>h.elim id λh=>absurd E ZbC,.inl⟩
  have xd:GS.Ok ⟨λb q=>s.S b q\/(b=s.w.heap.size/\q<(k+m)*i.size),s.tag,s.w.drew.alloc (.cells arr T)⟩:=⟨λb q E=>by
    show b<(s.w.drew.alloc (.cells arr T)).heap.size;rcases E with E | ⟨E,_⟩
    .have:=S.lt _ _ E;omega
    .omega,λb q ⟨f,fz,E⟩=>by
    have E:(s.w.drew.alloc (.cells arr T)).heap[b]? = _:=E;have xp:=Bv E;by_cases e:b=s.w.heap.size
    .subst e
     rw[xi]at E;cases E;exact absurd rfl xo
    .exact .inl (S.safe b q ⟨f,fz,(Z.block ZbC).symm.trans E⟩)⟩
  refine⟨⟨λb q=>s.S b q\/(b=s.w.heap.size/\q<(k+m)*i.size),s.tag,s.w.drew.alloc (.cells arr T)⟩,rfl,?_,xd,?_,?_,λq=>⟨λh=>h.elim (λh=>absurd h (O q)) λh=>h.2,λh=>.inr ⟨rfl,h⟩⟩,λb E=>⟨Z.block E,λq=>xw b q E⟩⟩
  .refine xb.trans ⟨Z,λ_ _ h=>.inl h,λb q E h=>(xw b q E).1 h,λ_ _=>rfl,λ_=>xd⟩
  .exact ⟨Z.size,λ_ _ h=>.inl h,λb f y fz E=>⟨f,fz,(Z.block (Bv E)).trans E,λ_ _=>rfl⟩⟩
  .exact ⟨w,.inr ⟨_,cap,arr,rfl,Yay _,xi,xk,xe,xv,xE⟩⟩
 have xz:k+m<=maxLen:=Zjn
 have xC:∀xt,xt<k+m->∃K:GS,K.w=s.w.drew.alloc (.cells (p.toArray++xc.toArray++Builtin.zeroCells z.cells (grownCap s.w (k+m) xt T-(k+m))) T)/\GS.LeX s0.mine s0.g K/\K.Ok/\GS.Chg s K/\K.w.ownsRow 0 T i.size (.slice (some ⟨s.w.heap.size,0,none⟩) (k+m) (grownCap s.w (k+m) xt T)) (k+m) (p++xc) /\
   (∀q,K.S s.w.heap.size q↔q<(k+m)*i.size)/\(∀b,b<s.w.heap.size->K.w.heap[b]? = s.w.heap[b]? /\ ∀q,K.S b q↔s.S b q):=by
  intro xt N;have xj:=grownCap_ge s.w (k+m) xt T;have xq:grownCap s.w (k+m) xt T<=maxLen:=grownCap_le_maxLen s.w (k+m) xt T xz;refine fresh _ _ xj xq ?_ ?_
  .simp only[Array.size_append,Ydh,size_zeroCells,xm,xn.1,I,<-YbG]
   exact Zhl
  .simp only[Array.toList_append,Yaf]
   rw[<-Yaf,<-w];exact Yex
 rcases xn.2 with⟨rfl,rfl⟩ | ⟨g,cap,xh,rfl,hbg,hg,hnc,xq,hcs,htake⟩
 .have C:p=[]:=YaE (by simpa using xn.1)
  subst C;have Y:=run_append_nil (P:=P) s.w t ty T i z L J n ⟨b,o,none⟩ m c xc I xA Q ZbC (by have E:=xf;simp only[YaH]at E;omega);obtain⟨K,F,M,R,e4,e5,e6,e7⟩:=xC 0 ZbC;simp only[YaH,Ycy,Array.empty_append]at F e5 e6 ⊢;exact ZgT
 .by_cases xB:k+m<=cap
  .have xF:k*i.size+xc.length<=xh.size:=by rw [I, hcs, <-YbG];exact YaC _ xB
   have Y:=run_append_room (P:=P) s.w t ty T i L J g k cap xh hg ⟨b,o,none⟩ m c xc I xA A xB xF;obtain⟨W,U⟩:∃W,W=s.w.setRow g (xh.toList.take (k*i.size)++xc++xh.toList.drop (k*i.size+xc.length)).toArray:=⟨_,rfl⟩;rw[<-U]at Y;have xg:∀b,b≠g->W.heap[b]? = s.w.heap[b]?:=λb E=>by rw[U];exact ZjQ
   have xi:W.heap[g]? = some (.cells (xh.toList.take (k*i.size)++xc++xh.toList.drop (k*i.size+xc.length)).toArray T (0,0)):=by rw[U];exact setRow_heap s.w g xh _ T _ hg
   have H:W.heap.size=s.w.heap.size:=by rw[U];simp[World.setRow]
   have xx:=Bv hg;have xD:∀q,s.S g q↔q<k*i.size:=x g rfl;have xw:∀b q,b≠g->((s.S b q\/(b=g/\q<(k+m)*i.size))↔s.S b q):=λb q E=>⟨λh=>h.elim id λh=>absurd h.1 E,.inl⟩
   have xd:GS.Ok ⟨λb q=>s.S b q\/(b=g/\q<(k+m)*i.size),s.tag,W⟩:=⟨λb q E=>by
     show b<W.heap.size;rcases E with E | ⟨E,_⟩
     .have:=S.lt _ _ E;omega
     .omega,λb q ⟨f,fz,E⟩=>by
     have E:W.heap[b]? = _:=E;by_cases e:b=g
     .subst e
      rw[xi]at E;cases E;exact absurd rfl xo
     .exact .inl (S.safe b q ⟨f,fz,(xg b e).symm.trans E⟩)⟩
   have xy:∀q,q<k*i.size->(xh.toList.take (k*i.size)++xc++xh.toList.drop (k*i.size+xc.length)).toArray[q]? = xh[q]?:=λq B=>by
    rw[YbH,Yaf,Yaw ZiI,YaK,Yao B];simp
   have xJ : GS.Chg s ⟨fun b q => s.S b q ∨ (b = g ∧ q < (k + m) * i.size), s.tag, W⟩ := ⟨by show _ ≤ W.heap.size; omega, fun _ _ h => .inl h, fun b f y fz E => by
    by_cases e:b=g
    .subst e
     rw[hg]at E;cases E;exact⟨_,_,xi,λq B=>xy q ((xD q).1 B)⟩
    .exact ⟨f,fz,(xg b e).trans E,λ_ _=>rfl⟩⟩
   refine⟨_,⟨λb q=>s.S b q\/(b=g/\q<(k+m)*i.size),s.tag,W⟩,Y,xb.turn (xG g rfl) (by show W.os=_;rw[U];rfl) (by show W.tape=_;rw[U];rfl) (by show W.output=_;rw[U];rfl) (λb _ E=>⟨xg b E,λq h=>(xw b q E).1 h⟩) xJ (λ_ _=>rfl) λ_=>xd,xd,xJ,?_,?_,λb E r=>?_,λb E=>.inl E⟩
   .refine ⟨w,.inr ⟨g,cap,_,rfl,hbg,xi,xB,xq,?_,?_⟩⟩
    .simp only[Ydh,Yac,YaO,Ybx,Yek]
     omega
    .rw [htake,<-w]
     exact Yex
   .intro b E q
    cases E;constructor
    .rintro (h | h)
     .have:=(xD q).1 h
      have:k*i.size<=(k+m)*i.size:=YaC _ ZbC;omega
     .exact h.2
    .intro h
     exact .inr ⟨rfl,h⟩
   .have xa:b≠g:=λe=>r (by rw [e]; rfl)
    exact⟨xg b xa,λq=>xw b q xa⟩
  .have xI:∀j u,p[j]? = some u->s.w.cell? ((⟨g,0,none⟩:Addr).add j)=some u:=xn.cells (g:=g) rfl
   have Y:=run_append_grow (P:=P) s.w t ty T i z L J n ⟨g,0,none⟩ k cap p xn.1 xI ⟨b,o,none⟩ m c xc I xA ZbC ZbC (growslice_fits ZbC xf);obtain⟨K,F,M,R,e4,e5,e6,e7⟩:=xC cap ZbC;exact ZgT
def down(id:Nat)(x:D):AV->AV
 |.own j=>bif Nat.beq j id then .d x else .own j
 |.fn f J=>bif J.contains id then .d Cs else .fn f J
 |av=>av
theorem Ls(b C:List (List D))(k:Nat):(b++C).getD k []=if k<b.length then b.getD k []else C.getD (k-b.length) []:=by
 rw[Yaa,YaQ];split<;>simp[Yaa]
section
variable {P:Program} {s0:An} {n:Nat} {ops:Array Oper} {Q:Exit->AS->Prop} {rest:List Oper} {o:Oper} {σ:AS}
def AS.appd(σ:AS)(k:Option Tmp)(id T l:Nat)(B C:List (List D)):AS:=
 AS.put { fr:=σ.fr.map λp=>(p.1,down id (slD T l B) p.2),hp:=(σ.hp.map (Ow.mapA (down id (slD T l B)))).set id (.row T l (B++C)) } k (.own id)
theorem NX{T l:Nat}{b o:Nat}(h:∀k,k<vk.length->(vk.getD k []).length=l/\Lies s b (o+k*l) T (vk.getD k [])):∃w:List Value,w.length=vk.length*l/\(∀j u,w[j]? = some u->s.w.cell? ⟨b,o+j,none⟩=some u)/\(∀u∈w,u.oneCell'=true) /\
  ∀k j,k<vk.length->j<l->∃u,w[k*l+j]? = some u/\u.oneCell'=true/\(Dd (vk.getD k []) j).rel s u:=by
 have key:∀i,∃u,i<vk.length*l->s.w.cell? ⟨b,o+i,none⟩=some u/\u.oneCell'=true/\(Dd (vk.getD (i/l) []) (i%l)).rel s u:=λi=>by
  by_cases J:i<vk.length*l
  .have v:0<l:=YbC λe=>by rw [e] at J;simp at J
   have B:i/l<vk.length:=(YdO v).2 J;have X:i%l<l:=YaR _ v;obtain⟨q,A⟩:=h (i/l) B;obtain⟨u,K,C,E⟩:=A.cell (k:=i%l) ZbC;refine⟨u,λ_=>⟨?_,C,E⟩⟩;rw[<-K];have:=YcT i l;rw[YaM]at this;rw[YbR,this]
  .exact ⟨undef,λh=>absurd h J⟩
 obtain⟨f,p⟩:∃f:Nat->Value,∀i,i<vk.length*l->s.w.cell? ⟨b,o+i,none⟩=some (f i)/\(f i).oneCell'=true/\(Dd (vk.getD (i/l) []) (i%l)).rel s (f i):=⟨λi=>(key i).choose,λi J=>(key i).choose_spec J⟩;refine⟨(List.range (vk.length*l)).map f,by simp,λj u X=>?_,λu G=>?_,λk j B X=>?_⟩
 .rw [Yav]at X
  by_cases M:j<vk.length*l
  .rw [Ydu M]at X
   cases X;exact(p j M).1
  .rw [YbI (by simp; omega)] at X
   cases X
 .obtain ⟨i,J,rfl⟩:=YaD.1 G
  exact(p i (Ybd.1 J)).2.1
 .have O:k*l+j<vk.length*l:=by
   have:(k+1)*l<=vk.length*l:=YaC l B;exact Zhm
  refine⟨f (k*l+j),by rw[Yav,Ydu O];rfl,(p _ O).2.1,?_⟩;have:=(p _ O).2.2
  have W:(k*l+j)/l=k:=by
   rw[YaM,YcU ZbC,YbK X];omega
  have F:(k*l+j)%l=j:=by
   rw[YaM,Ydz,YaV X]
  rwa [W,F]at this
theorem TH{t T T2 sz bytes id m b:Nat}{d:TypeDesc}(xb:o.op=.call { callee:=.builtin .append,args:=#[x,y],argTypes:=#[t,t] })(hg:o.guard=none)(F:σ.arg x=.own id)(S:HO σ.hp (σ.arg y)=some (slD T2 sz ue))(hh:σ.hp[id]? = some (.row T sz vk))(O:Tab P t (.slice T) m b u)(hT:Tab P T d sz bytes z)(xn:z.cells.size=sz)(H:WL o.dst n=true)(xk:(vk.length+ue.length)*bytes<=140737488355328)(xm:vk.length+ue.length<=4611686018427387904)(h:AWl P s0 n ops Q rest (σ.appd o.dst id T sz vk ue)):AWl P s0 n ops Q (o::rest) σ:=by
 refine AWl.step hg λs Y a xa K hK=>?_;have xo:=xa.arg x;rw[F]at xo;obtain⟨xh,Z⟩:=xo;obtain⟨xs,q,M,X,h5,h6⟩:=xa.hp id _ hh;have xr:(slD T sz vk).rel s (Y id):=DV (av:=.own id) xa.hp ⟨xh,rfl⟩ (by simp[HO,hh]);obtain⟨A,c,e2,h7,h8,h9⟩:=DV xa.hp (xa.arg y) S
 have xx:∀(v':Value) (U:GS) (xw:List Value),(execOp a.eval o).run P s.w=.ok (.value v') U.w->GS.LeX s0.mine s0.g U->U.Ok->GS.Chg s U->U.w.ownsRow 0 T sz v' (vk.length+ue.length) xw->(∀b,DR v'=some b->∀k,U.S b k↔k<(vk.length+ue.length)*sz) ->
   (∀b,b<s.w.heap.size->DR (Y id)≠some b->U.w.heap[b]? = s.w.heap[b]? /\ ∀k,U.S b k↔s.S b k)->(∀b,DR v'=some b->DR (Y id)=some b\/s.w.heap.size<=b) ->
   (∀k,k<(vk++ue).length->((vk++ue).getD k []).length=sz/\∀j,j<sz->∃L,xw[k*sz+j]? = some L/\L.oneCell'=true/\(Dd ((vk++ue).getD k []) j).rel U L)->o.wp P a s.w K (GR s0 n Q):=by
  intro v' U xw xe q1 q2 q3 q4 q5 q6 q7 q8;unfold Oper.wp;rw[xe];have I:(vk++ue).length=vk.length+ue.length:=Yac
  have xj:=xa.upd (s':=U) (o':=.row T sz (vk++ue)) (ρ':=λi=>if i=id then v' else Y i) (f:=down id (slD T sz vk)) q1 q2 q3 hh q6 (λj l=>Yaj l)
   ⟨xw, by simp only [Yao]; rw [I]; exact q4, M, X, fun b G k => by simp only [Yao] at G; rw [I]; exact q5 b G k, q8⟩ (fun b G => by replace G : DR (if id = id then v' else Y id) = some b := G; rw [Yao rfl] at G; exact q7 b G) fun av v xf => by
    cases av with
    |d x=>exact x.st xf q3
    |ptr i off=>
     obtain⟨p1,bb,p2,p3⟩:=xf;refine⟨p1,bb,?_,p3⟩;show(if i=id then v' else Y i)=_;by_cases e:i=id
     .exfalso
      subst e;rcases q.2 with⟨w1,_⟩ | ⟨g,cap,cur,w1,_⟩<;>rw[w1]at p2<;>cases p2
     .rw [Yaj e];exact p2
    |own j=>
     obtain⟨p1,p2⟩:=xf;show AVr σ.hp.length _ U (bif Nat.beq j id then .d (slD T sz vk)else .own j) v
     cases G:Nat.beq j id with
     |true=>
      have e:j=id:=Yan G;subst e;rw[p2];exact(slD T sz vk).st xr q3
     |false=>
      exact ZhZ
    |fn f xc=>
     obtain⟨p1,p2⟩:=xf;show AVr σ.hp.length _ U (bif xc.contains id then .d Cs else .fn f xc) v
     cases G:xc.contains id with
     |true=>trivial
     |false=>
      have R:id∉xc:=λh=>by rw[Ybv.2 h]at G;cases G
      exact⟨p1,by rw[p2,YaS λi J=>(Yaj λe=>R ZeN:(if i=id then v' else Y i)=Y i)]⟩
  have xi:=xj.put (GS.Le.refl U) (JJ H) (v:=v') (r:=.own id) ⟨by simpa using xh,by simp⟩;exact hK _ _ _ h ⟨U,_,rfl,xi⟩
 have xu:∀v' V,(Builtin.append_ #[t,t] o.type #[Y id,a.eval y]).run P s.w=.ok v' V->(execOp a.eval o).run P s.w=.ok (.value v') V:=λv' V r=>by
  simp only[execOp,xb,resolve,invoke,builtin,Sem.run_bind,Sem.run_pure,Result.andThen_ok,Yco,Ybb,Ycb,Z,r]
 rcases YaB ue.length with w | w
 .obtain rfl:ue=[]:=YaE w
  obtain⟨i,J,hz,xp,xq⟩:=hT.info
  have xy:∃B N C,Y id=.slice B N C/\N<=C:=by
   rcases q.2 with⟨w1,_⟩ | ⟨g,cap,cur,w1,_,_,w2,_⟩
   .exact ⟨none,0,0,w1,Yai _⟩
   .exact ⟨_,_,_,w1,w2⟩
  obtain⟨B,N,C,w1,w2⟩:=xy
  have r:(Builtin.append_ #[t,t] o.type #[Y id,a.eval y]).run P s.w=.ok (Y id) s.w:=by
   rw[e2,w1]
   cases A with
   |none=>exact run_append_nothing s.w _ _ _ _ i O.und J _ _ _ w2 _ (Src.ofNil s.w O.und c)
   |some ad=>exact run_append_nothing s.w _ _ _ _ i O.und J _ _ _ w2 _ (Src.ofSlice s.w O.und _ _ _ [] ZbR ZbR ZbR)
  refine xx (Y id) s xs (xu _ _ r) xa.le xa.ok (GS.Chg.refl s) Zdv (λb G k=>by simpa using h5 b G k) (λb G _=>⟨rfl,λ_=>Ydt⟩) (λb G=>.inl G) λk E=>?_;rw[YbD]at E ⊢;exact⟨(h6 k E).1,(h6 k E).2⟩
 .obtain ⟨g,p,rfl,xd⟩:=h9 w
  obtain⟨xg,n1,n2,n3,n4⟩:=NX xd;obtain⟨v',U,r,q1,q2,q3,q4,q5,q6,q7⟩:=PI (P:=P) (ty:=o.type) xa.le xa.ok O.und hT xn M X q (λb G=>xa.own id _ b hh G) h5 g p ue.length c xg n1 w n2 n3 xk xm;refine xx v' U (xs++xg) (xu _ _ (by rw[e2];exact r)) q1 q2 q3 q4 q5 q6 q7 λk E=>?_;rw[Yac]at E;rw[Ls];have xt:xs.length=vk.length*sz:=q.1;split
  .rename_i W
   refine⟨(h6 k W).1,λj l=>?_⟩;obtain⟨L,r1,xv,r3⟩:=(h6 k W).2 j l;refine⟨L,?_,xv,(Dd _ j).st r3 q3⟩;rw[Yaw]
   .exact r1
   .rw [xt]
    have:(k+1)*sz<=vk.length*sz:=YaC sz W;exact Zhm
  .rename_i xl
   refine⟨(xd (k-vk.length) ZbC).1,λj l=>?_⟩;obtain⟨L,r1,xv,r3⟩:=n4 (k-vk.length) j ZbC l;refine⟨L,?_,xv,(Dd _ j).st r3 q3⟩;have e3:k*sz=vk.length*sz+(k-vk.length)*sz:=ZiK
   rw[Yak ZbC,xt,<-r1];exact Zhl
theorem Wi{ρ:Nat->Value}{a:Act}{T sz cap:Nat}{arr:Array Value}(hst:StI s0 n σ a s ρ)(e:T≠335)(c:0<sz)(G:cap<=maxLen)(q:arr.size=cap*sz){dst:Option Tmp}(d:WL dst n=true) :
  St s0 n (σ.new dst (.own σ.hp.length) (.row T sz [])) (a.put dst (.slice (some ⟨s.w.heap.size,0,none⟩) 0 cap)) (s.w.alloc (.cells arr T)):=
 ⟨s.mk' arr T 0, _, rfl, hst.new (s.le_mk' arr T 0 e) (JJ d) (u := .slice (some ⟨s.w.heap.size, 0, none⟩) 0 cap) ⟨by omega, by simp⟩
  ⟨[], ⟨by simp, .inr ⟨s.w.heap.size, cap, arr, by simp, Yay _, heap_alloc_new s.w _, Yay _, G, q, by simp⟩⟩, e, c, fun b E k => by
   simp only[Yao]at E;cases E;exact⟨λB=>absurd (hst.ok.lt _ _ B) (Ycm _),λB=>by simp at B⟩,λk B=>by simp at B⟩ λb E=>by cases E;exact Yai _⟩
theorem A26{t T m b l bytes:Nat}{d:TypeDesc}(F:o.op=.buildSlice t 0 #[])(R:o.guard=none)(L:Tab P t (.slice T) m b u)(e:Tab P T d l bytes z)(J:T≠335)(c:0<l)(q:WL o.dst n=true)(h:AWl P s0 n ops Q rest (σ.new o.dst (.own σ.hp.length) (.row T l []))):AWl P s0 n ops Q (o::rest) σ:=by
 refine AWl.step R λs V a A K B=>?_
 have C:(execOp a.eval o).run P s.w=.ok (.value (.slice (some ⟨s.w.heap.size,0,none⟩) 0 0)) (s.w.alloc (.cells #[] T)):=by
  have g:∀arr,(newRow T arr).run P s.w=.ok ⟨s.w.heap.size,0,none⟩ (s.w.alloc (.cells arr T)):=λ_=>rfl;simp[execOp,F,Instr.buildSlice,run_underlying L.und,e.run_size,Instr.fill,g];exact ZhF
 unfold Oper.wp;rw[C];exact B _ _ _ h (Wi A J c (by simp[maxLen]) ZbR q)
theorem A4M{t T m b l bytes:Nat}{d:TypeDesc}{c:Int}(N:o.op=.makeSlice t x y)(R:o.guard=none)(C:σ.arg x=.d (eI 0))(M:σ.arg y=.d (eI c))(L:Tab P t (.slice T) m b u)(O:Tab P T d l bytes z)(r:0<=c)(G:c<=1000000000)(Y:bytes<=65536)(p:T≠335)(q:0<l)(A:WL o.dst n=true)(h:AWl P s0 n ops Q rest (σ.new o.dst (.own σ.hp.length) (.row T l []))):AWl P s0 n ops Q (o::rest) σ:=by
 refine AWl.step R λs V a I K S=>?_;have W:a.eval x=.int .i64 0:=St.exD C ⟨s,V,rfl,I⟩;have F:a.eval y=.int .i64 c:=St.exD M ⟨s,V,rfl,I⟩;obtain⟨i,J,E,U,w⟩:=O.info;have Z:IntKind.i64.wrap 0=0:=rfl;have wc:IntKind.i64.wrap c=c:=IntWalk.i64_in _ ZbC;obtain⟨k,rfl⟩:=YbJ r;have B:k<=1000000000:=by omega
 have xf:bytes*k<=65536*1000000000:=YaX Y B
 have xg:((bytes:Int)*(k:Int))<=281474976710656:=by
  have:((bytes*k:Nat):Int)<=((65536*1000000000:Nat):Int):=Int.ofNat_le.2 xf;rw[Ydy]at this;omega
 have xc:k*bytes<=roomBytes:=by
  rw[YaM];have:roomBytes=140737488355328:=rfl;omega
 obtain⟨arr,v,X⟩:∃arr:Array Value,arr.size=k*l/\(execOp a.eval o).run P s.w=.ok (.value (.slice (some ⟨s.w.heap.size,0,none⟩) 0 k)) (s.w.alloc (.cells arr T)):=by
  have g:∀arr,(newRow T arr).run P s.w=.ok ⟨s.w.heap.size,0,none⟩ (s.w.alloc (.cells arr T)):=λ_=>rfl;have xd:¬(281474976710656<(bytes:Int)*(k:Int)):=by omega
  have xe:¬(roomBytes<k*bytes):=by omega
  have xb:¬((k:Int)<0):=by omega
  by_cases f:k*l=0
  .refine ⟨(Array.range (k*l)).map (λj=>(#[]:Array Value)[j%0]!), by simp, ?_⟩
   simp[execOp,N,W,F,Instr.makeSlice,run_underlying L.und,asInt,asIntOf,typeInfo,J,w,Z,wc,xd,askRoom,xe,O.run_size,f,g,sizeOf,U,xb]
  .refine ⟨(Array.range (k*l)).map (λj=>z.cells[j%z.cells.size]!), by simp, ?_⟩
   have xa:k≠0:=λe=>f (by rw[e,YcH]);have H:l≠0:=by omega
   simp[execOp,N,W,F,Instr.makeSlice,run_underlying L.und,asInt,asIntOf,typeInfo,J,w,Z,wc,xd,askRoom,xe,sizeOf,U,xa,H,zeroValue,E,g,xb];exact λh=>absurd h f
 unfold Oper.wp;rw[X];exact S _ _ _ h (Wi I p q Zjn v A)
end
def Jg(s:GS)(f:Array Value)(S:List D):Prop:=f.size=S.length/\∀k,k<S.length->∃u,f[k]? = some u/\u.oneCell'=true/\(Dd S k).rel s u
def TQ(S:List D)(off:Nat)(z:List D):List D:=S.take off++(z++S.drop (off+z.length))
theorem Gy{off:Nat}(h:off+vn.length<=v.length):(TQ v off vn).length=v.length:=by simp[TQ];omega
theorem A5j{off:Nat}(h:off+vn.length<=v.length)(k:Nat):Dd (TQ v off vn) k=if off<=k/\k<off+vn.length then Dd vn (k-off)else Dd v k:=by
 unfold TQ Dd;rw[Yaa,YaQ];have q:(v.take off).length=off:=ZiI
 rw[q];split
 .rename_i O
  rw[Yaj ZbC,YaK,Yao O];simp
 .rename_i S
  rw[YaQ];split
  .rename_i O
   rw[Yao ZbC];simp
  .rename_i m
   rw[Yaj ZbC,YbT];simp;congr 2;omega
theorem UW(f:Array Value):∀(l:List (Value×Nat)) (b:Nat) (off:Nat),(∀p∈l,b<=p.2)->(l.map (·.2)).Pairwise (· < ·)->∀k,(l.foldl (λf (p:Value×Nat)=>f.setIfInBounds (off+p.2) p.1) f).size=f.size /\
  ((∀p∈l,off+p.2≠k)->(l.foldl (λf (p:Value×Nat)=>f.setIfInBounds (off+p.2) p.1) f)[k]? = f[k]?)/\(∀p∈l,off+p.2=k->k<f.size->(l.foldl (λf (p:Value×Nat)=>f.setIfInBounds (off+p.2) p.1) f)[k]? = some p.1)
 |[],b,off,_,_,k=>⟨rfl,λ_=>rfl,λp F=>by cases F⟩
 |q::l,b,off,E,F,k=>by
  have r:=YdA.1 F;obtain⟨A,B,K⟩:=UW (f.setIfInBounds (off+q.2) q.1) l (q.2+1) off (λp N=>r.1 p.2 (YbU N)) r.2 k;refine⟨by rw[YdB,A];simp,λC=>?_,λp I C O=>?_⟩
  .rw [YdB,B λp N=>C p (Ybc _ N),YaP (C q Ybk)]
  .rw [YdB]
   rcases YaL.1 I with rfl | N
   .rw [B λG y=>by have:p.2<G.2:=r.1 G.2 (YbU (f:=λx:Value×Nat=>x.2) y); omega, C]
    simp[O]
   .exact K p N C Zfc
theorem Aci{f J:Array Value}{off:Nat}(h:Jg s f v)(r:Jg s J vn)(E:off+vn.length<=v.length):Jg s (J.zipIdx.foldl (λf (p:Value×Nat)=>f.setIfInBounds (off+p.2) p.1) f) (TQ v off vn):=by
 rw[<-Array.foldl_toList];have n:J.zipIdx.toList=J.toList.zipIdx:=by simp
 rw[n]
 have z:(J.toList.zipIdx.map (·.2)).Pairwise (· < ·):=by
  show(List.map Prod.snd _).Pairwise _;rw[List.zipIdx_map_snd];exact List.pairwise_lt_range'
 have key:=UW f J.toList.zipIdx 0 off (λ_ _=>Yay _) z;refine⟨by rw[(key 0).1,Gy E,h.1],λk B=>?_⟩;rw[Gy E]at B;rw[A5j E];obtain⟨q,A,K⟩:=key k;by_cases I:off<=k/\k<off+vn.length
 .rw [Yao I]
  obtain⟨u,Q,C,G⟩:=r.2 (k-off) ZbC;refine⟨u,?_,C,G⟩;refine K (u,k-off) ?_ (by show off+(k-off)=k;omega) (by rw[h.1];exact B);rw[YbQ];simpa using Q
 .rw [Yaj I]
  obtain⟨u,Q,C,G⟩:=h.2 k B;refine⟨u,?_,C,G⟩;rw[A λp F=>?_,Q];rw[YbQ]at F;have:=(Yae.1 F).1;simp[r.1]at this;omega
def Ht(place:Nat->Option (Nat×Nat))(S:List D):List (Nat×List D)->Option (List D)
 |[]=>some S
 |(i,z)::r=>match place i with
  |some (off,size)=>bif Nat.beq z.length size&&Nat.ble (off+size) S.length then Ht place (TQ S off z) r else none
  |none=>none
def AcC(s:GS)(v:Value)(z:List D):Prop:=Jg s v.cells z
def A1F(s:GS):List (Nat×Value)->List (Nat×List D)->Prop
 |[],[]=>True
 |(i,v)::l,(j,z)::r=>i=j/\AcC s v z/\A1F s l r
 |_,_=>False
theorem LJ{s:GS}{place:Nat->Option (Nat×Nat)}:∀{l:List (Nat×Value)} {r:List (Nat×List D)} {f:Array Value} {S L:List D},A1F s l r->Jg s f S->Ht place S r=some L->∃C,Instr.fill place f l=some C/\Jg s C L
 |[],[],f,S,L,_,G,p=>by cases p;exact⟨f,rfl,G⟩
 |[],_::_,_,_,_,h,_,_=>h.elim
 |_::_,[],_,_,_,h,_,_=>h.elim
 |(i,v)::l,(j,z)::r,f,S,L,⟨I,F,Y⟩,G,p=>by
  subst I;unfold Ht at p
  cases N:place i with
  |none=>rw[N]at p;cases p
  |some q=>
   obtain⟨off,size⟩:=q;rw[N]at p;simp only at p
   cases E:(Nat.beq z.length size&&Nat.ble (off+size) S.length)with
   |false=>rw[E]at p;cases p
   |true=>
    rw[E]at p;simp only[Yam,YdL]at E;have W:z.length=size:=Yan E.1;have o:=E.2;have A:v.cells.size=size:=by rw[F.1,W]
    have B:=Aci G F (off:=off) ZbC;obtain⟨C,K,Q⟩:=LJ Y B p;refine⟨C,?_,Q⟩;unfold Instr.fill;rw[N];have J:=G.1;simp only;rw[Yaj (by simp only[YaT,YaZ,ne_eq,not_or,Decidable.not_not];omega)];exact K
def PartsA(F:List Ow)(arg:Operand->AV):List (Nat×Operand)->List (Nat×List D)->Prop
 |[],[]=>True
 |(i,x)::l,(j,z)::r=>i=j/\(arg x=.d (AP z)\/∃y,HO F (arg x)=some y/\One F (arg x)/\z=[y])/\PartsA F arg l r
 |_,_=>False
theorem PartsA.nil{hp:List Ow}:PartsA hp vC [] []:=trivial
theorem A4q{hp:List Ow}{i:Nat}{r:List (Nat×List D)}(h:vC x=.d (AP v))(Y:PartsA hp vC uf r):PartsA hp vC ((i,x)::uf) ((i,v)::r):=⟨rfl,.inl h,Y⟩
theorem PartsA.rel{base:Nat}{ρ:Nat->Value}{s:GS}{hp:List Ow}{arg:Operand->AV}{ev:Operand->Value}(n:HpOk base ρ s hp):∀{l:List (Nat×Operand)} {r:List (Nat×List D)},PartsA hp arg l r->(∀p∈l,AVr hp.length ρ s (arg p.2) (ev p.2))->A1F s (l.map λp=>(p.1,ev p.2)) r
 |[],[],_,_=>trivial
 |[],_::_,h,_=>h.elim
 |_::_,[],h,_=>h.elim
 |(i,x)::l,(j,z)::r,⟨q,A,K⟩,h=>by
  refine⟨q,?_,PartsA.rel n K λp hp=>h p (Ybc _ hp)⟩;have C:=h (i,x) Ybk;rcases A with A | ⟨y,A,h4,rfl⟩
  .have C:AVr hp.length ρ s (arg x) (ev x):=C
   rw[A]at C;obtain⟨f,e,E,G⟩:=C;show Jg s (ev x).cells z;rw[e];exact⟨E,G⟩
  .have E:=h4 _ _ _ _ n C
   have G:=DV n C A;show Jg s (ev x).cells [y];have:(ev x).cells=#[ev x]:=by cases F:ev x<;>first | rfl | (rw[show ev x=_ from F]at E;cases E)
   rw[this];refine⟨rfl,λk B=>?_⟩;obtain rfl:k=0:=by simp at B;omega
   exact⟨ev x,rfl,E,G⟩
def FieldsT(P:Program):List Field->List (Nat×Nat)->Prop
 |[],[]=>True
 |f::l,p::r=>(∃d b z,Tab P f.type d p.2 b z)/\p.1=f.offset/\FieldsT P l r
 |_,_=>False
theorem FieldsT.nil:FieldsT P [] []:=trivial
theorem FieldsT.cons{f:Field}{l:List Field}{d:TypeDesc}{n b:Nat}{r:List (Nat×Nat)}(h:Tab P f.type d n b z)(Y:FieldsT P l r):FieldsT P (f::l) ((f.offset,n)::r):=⟨⟨d,b,z,h⟩,rfl,Y⟩
theorem FieldsT.run {P : Program} {w : World} : ∀ {l : List Field} {r : List (Nat × Nat)}, FieldsT P l r → (l.mapM fun f => do pure (f.offset, ← sizeOf f.type) : Sem (List (Nat × Nat))).run P w = .ok r w
 |[],[],_=>by simp
 |[],_::_,h=>h.elim
 |_::_,[],h=>h.elim
 |f::l,(o,n)::r,⟨⟨d,b,z,q⟩,A,K⟩=>by
  have u:=FieldsT.run (w:=w) K;have A:o=f.offset:=A;subst A;simp only[List.mapM_cons,Sem.run_bind,q.run_size,Result.andThen_ok,Sem.run_pure,u]
def WI(l:List Value):List D:=l.map ex
theorem Vd(h:Ih vB.toList=true):Jg s vB (WI vB.toList):=by
 refine⟨by simp[WI],λk B=>?_⟩;simp[WI]at B;refine⟨vB[k],YaF B,Yah.1 h _ ZbR,?_⟩;have:Dd (WI vB.toList) k=ex vB[k]:=by simp[Dd,WI,B]
 rw[this];rfl
section
variable {P:Program} {hp:List Ow} {o:Oper} {arg:Operand->AV}
theorem Quiet.build{J:Array Field}{n b:Nat}(G:o.op=.build t uf.toArray)(L:Tab P t (.struct J) n b z)(O:FieldsT P J.toList vw)(q:Ih z.cells.toList=true)(Y:PartsA hp arg uf uu)(C:Ht (λi=>vw[i]?) (WI z.cells.toList) uu=some v):Quiet P hp o arg (.d (AP v)):=by
 refine⟨λbase s V B F N Z h=>?_⟩;have A:=PartsA.rel (ev:=B) Z Y λp j=>h p.2 (by rw[G];simp only[Op.operands,YdV];exact YbU j);obtain⟨M,K,Q⟩:=LJ A (Vd q) C;refine BW (v:=.agg M) ?_ ⟨GS.Le.refl s,M,rfl,Q⟩;have k:=FieldsT.run (w:=s.w) O
 have E : (J.mapM fun f => do pure (f.offset, ← sizeOf f.type) : Sem (Array (Nat × Nat))).run P s.w = .ok vw.toArray s.w := by
  rw[<-Array.toArray_toList (xs:=J),List.mapM_toArray,Sem.run_map,k];rfl
 have g:(λx:Nat=>vw.toArray[x]?)=λi=>vw[i]?:=by funext i;simp
 have I:(uf.toArray.map λp:Nat×Operand=>(p.1,B p.2)).toList=uf.map λp=>(p.1,B p.2):=by simp
 simp only[execOp,G,Instr.build,Sem.run_bind,L.run_zero,Result.andThen_ok,run_underlying L.und,E,g,I,K,Sem.run_pure]
theorem Tk{len n b C H:Nat}{d:TypeDesc}(I:o.op=.build t uf.toArray)(L:Tab P t (.array len U) n b z)(B:Tab P U d C H u)(q:Ih z.cells.toList=true)(Y:PartsA hp arg uf uu)(F:Ht (λi=>some (i*C,C)) (WI z.cells.toList) uu=some v):Quiet P hp o arg (.d (AP v)):=by
 refine⟨λbase s V E G M Z h=>?_⟩;have A:=PartsA.rel (ev:=E) Z Y λp j=>h p.2 (by rw[I];simp only[Op.operands,YdV];exact YbU j);obtain⟨J,K,Q⟩:=LJ A (Vd q) F;refine BW (v:=.agg J) ?_ ⟨GS.Le.refl s,J,rfl,Q⟩;have x:(uf.toArray.map λp:Nat×Operand=>(p.1,E p.2)).toList=uf.map λp=>(p.1,E p.2):=by simp
 simp only[execOp,I,Instr.build,Sem.run_bind,L.run_zero,Result.andThen_ok,run_underlying L.und,B.run_size,x,K,Sem.run_pure]
def FM(l:Nat):Nat->List D->List (List D)
 |0,_=>[]
 |n+1,S=>S.take l::FM l n (S.drop l)
theorem Bo(l:Nat):∀(n:Nat) (S:List D),(FM l n S).length=n
 |0,_=>rfl
 |n+1,S=>by simp[FM,Bo l n]
theorem Nu(l:Nat):∀(n:Nat) (S:List D) (k:Nat),k<n->(FM l n S).getD k []=(S.drop (k*l)).take l
 |0,_,k,h=>absurd h ZbC
 |n+1,S,0,_=>by simp[FM]
 |n+1,S,k+1,h=>by
  have:=Nu l n (S.drop l) k ZbC;rw[Ydp]at this;simp only[FM,Ydb,this,YcP];rw[Yde l]
theorem Quiet.buildSlice{len n b G H:Nat}{d:TypeDesc}{parts:List (Nat×Operand)}{r:List (Nat×List D)}(c:o.op=.buildSlice t len parts.toArray)(L:Tab P t (.slice U) n b z)(F:Tab P U d G H u)(e:0<len)(g:0<G)(M:u.cells.size=G)(xj:len*G<=16777216)(q:Ih u.cells.toList=true)(Y:PartsA hp arg parts r)(N:Ht (λi=>some (i*G,G)) (List.replicate (len*G) Cs) r=some v):Quiet P hp o arg (.d (slD U G (FM G len v))):=by
 refine⟨λbase s V J a xd y h=>?_⟩;have A:=PartsA.rel (ev:=J) y Y λp xk=>h p.2 (by rw[c];simp only[Op.operands,YdV];exact YbU xk)
 have xe:Jg s ((Array.range (len*G)).map (λj=>u.cells[j%u.cells.size]!)) (List.replicate (len*G) Cs):=Zav
 obtain⟨xb,K,Q⟩:=LJ A xe N
 have xl:len*G≠0:=by
  have:=Yda e g;omega
 have x:(parts.toArray.map λp:Nat×Operand=>(p.1,J p.2)).toList=parts.map λp=>(p.1,J p.2):=by simp
 have T:(execOp J o).run P s.w=.ok (.value (.slice (some ⟨s.w.heap.size,0,none⟩) len len)) (s.w.alloc (.cells xb U)):=by
  have xn:∀arr,(newRow U arr).run P s.w=.ok ⟨s.w.heap.size,0,none⟩ (s.w.alloc (.cells arr U)):=λ_=>rfl;have xm:¬(len*G>2^24):=by omega
  simp only[execOp,c,Instr.buildSlice,Sem.run_bind,run_underlying L.und,Result.andThen_ok,F.run_size,Yaj xm,Yaj xl,F.run_zero,Sem.run_pure,x,K,xn]
 have Z:Ext s.w (s.w.alloc (.cells xb U)):=(Ext.refl _).alloc _;have R:=FO Z
 have I:v.length=len*G:=by
  have m:∀(l:List (Nat×List D)) (xf xi:List D),Ht (λi=>some (i*G,G)) xf l=some xi->xi.length=xf.length:=by
   intro l
   induction l with
   |nil=>intro xf xi h;cases h;rfl
   |cons p l f=>
    intro xf xi h;obtain⟨i,S⟩:=p;unfold Ht at h;simp only at h
    cases E:(Nat.beq S.length G&&Nat.ble (i*G+G) xf.length)with
    |false=>exact Zja
    |true=>
     rw[E]at h;exact Zjk
  rw[m _ _ _ N];simp
 refine Jp T (s.grown (s.w.alloc (.cells xb U))) rfl ⟨R,_,len,by rw[Bo],by rw[Bo];exact Yai _,by have:=Nat.le_mul_of_pos_right len g;omega,λ_=>⟨s.w.heap.size,0,rfl,λk B=>?_⟩⟩;rw[Bo]at B
 have xh:k*G+G<=len*G:=by
  exact Zjf
 rw[Nu _ _ _ _ B];refine⟨by simp;omega,xb,(0,0),heap_alloc_new s.w _,λj X=>?_⟩;have xg:j<G:=by simp at X;omega
 refine⟨.inr ⟨Yai _,by show _<(s.w.alloc _).heap.size;simp⟩,?_⟩;rw[LP xg,Ja,YaH];obtain⟨C,w,xa,xc⟩:=Q.2 (k*G+j) ZbC;exact⟨C,w,xa,(Dd v _).st xc R.chg⟩
theorem Quiet.slice{e n b J H T sz:Nat}{d:TypeDesc}{lo hi:Option Operand}{rows:List (List D)}{i j:Int}(S:o.op=.slice t x lo hi none)(E:HO hp (arg x)=some (slD T sz rows))(L:Tab P t (.slice e) n b z)(G:Tab P e d J H u)(v:J=sz)(U:(∃y,lo=some y/\arg y=.d (eI i))\/(lo=none/\i=0))(xe:(∃y,hi=some y/\arg y=.d (eI j))\/(hi=none/\j=rows.length))(I:0<=i)(w:i<=j)(X:j<=rows.length):Quiet P hp o arg (.d (slD T sz ((rows.take j.toNat).drop i.toNat))):=by
 refine⟨λbase s V N Q R l h=>?_⟩;obtain⟨A,c,W,q,B,K⟩:=DV l (h x (by rw[S];simp[Op.operands])) E;subst v;obtain⟨i,rfl⟩:=YbJ I;obtain⟨j,rfl⟩:=YbJ (Yet I w);have xf:i<=j:=by omega
 have xd:j<=rows.length:=by omega
 have xi:∃xc,lo.map N=xc/\((xc=some (.int .i64 i))\/(xc=none/\i=0)):=by
  rcases U with⟨y,rfl,M⟩ | ⟨rfl,hi0⟩
  .exact Zaw
  .exact ZjR
 have xh:∃xa,hi.map N=xa/\((xa=some (.int .i64 j))\/(xa=none/\j=rows.length)):=by
  rcases xe with⟨y,rfl,M⟩ | ⟨rfl,hi0⟩
  .exact Zaw
  .exact ZjR
 obtain⟨xc,Y,a⟩:=xi;obtain⟨xa,m,f⟩:=xh;have xg:(j:Int)<=c:=by omega
 have xb:(i:Int)<=j:=by omega
 have F:(Instr.sliceBounds true rows.length c xc xa none).run P s.w=.ok (i,j,c) s.w:=by
  rcases a with rfl | ⟨rfl,rfl⟩<;>rcases f with rfl | ⟨rfl,rfl⟩<;>simp[Instr.sliceBounds,Instr.sliceBound,asIntOf,xg,xb,xf,xd,q]
  all_goals first | omega | simp[xf,xd,q] | skip
 have r:(execOp N o).run P s.w=.ok (.value (.slice (if c=i then A else A.map (·.add (i*J))) (j-i) (c-i))) s.w:=by
  simp only[execOp,S,Y,m,W,YeI,Instr.sliceAt,Sem.run_bind,run_underlying L.und,Result.andThen_ok,Instr.slice,F,G.run_size,Sem.run_pure]
 have Z:((rows.take (j:Int).toNat).drop (i:Int).toNat).length=j-i:=ZiI
 refine BW r ⟨GS.Le.refl s,(if c=i then A else A.map (·.add (i*J))),c-i,by rw[Z],by rw[Z];omega,by omega,λhp=>?_⟩;rw[Z]at hp;obtain⟨g,p,rfl,O⟩:=K ZbC;refine⟨g,p+i*J,?_,λk C=>?_⟩
 .rw [Yaj ZbC]
  simp[Addr.add_lit]
 .rw [Z]at C
  rw[show(j:Int).toNat=j from rfl,show(i:Int).toNat=i from rfl];rw[UB,Pb ZbC];have:=O (i+k) ZbC;exact Zjt
end
def AVle(F:List Ow)(m:Nat)(x y:AV):Prop:=∀base V s v,HpOk base V s F->AVr F.length V s x v->AVr m V s y v
theorem AVle.d{hp:List Ow}{m:Nat}{x y:D}(h:x=y):AVle hp m (.d x) (.d y):=λ_ _ _ _ _ r=>h▸r
theorem AVle.le{hp:List Ow}{m:Nat}{x y:D}(h:D.le x y):AVle hp m (.d x) (.d y):=λ_ _ s v _ r=>h s v r
theorem AVle.int{hp:List Ow}{m:Nat}{k:IntKind}{a b:Int}(h:a=b):AVle hp m (.d (ex (.int k a))) (.d (ex (.int k b))):=AVle.d (by rw[h])
theorem AVle.ptr{m i off:Nat}(h:Nat.blt i m=true):AVle H m (.ptr i off) (.ptr i off):=λ_ _ _ _ _ ⟨_,r⟩=>⟨by simpa[Ybq]using h,r⟩
theorem AVle.own{hp:List Ow}{m i:Nat}(h:Nat.blt i m=true):AVle hp m (.own i) (.own i):=λ_ _ _ _ _ ⟨_,r⟩=>⟨by simpa[Ybq]using h,r⟩
theorem BY{m:Nat}{f:FuncId}(h:l.all (Nat.blt · m)=true):AVle H m (.fn f l) (.fn f l):=λ_ _ _ _ _ ⟨_,r⟩=>⟨λi J=>by simpa[Ybq]using Yah.1 h i J,r⟩
theorem Gi{m i:Nat}(h:HO H (.own i)=some r)(I:D.le r vv):AVle H m (.own i) (.d vv):=λ_ _ s v n q=>I s v (DV n q h)
theorem AM{T l:Nat}:D.le (eS) (slD T l []):=λs v h=>by
 have:v=.slice none 0 0:=h;subst this;exact slD.nil T l s
def FrLe(F:List Ow)(m:Nat)(h r:List (Nat×AV)):Prop:=∀p∈r,∃G,Ce h p.1=some G/\AVle F m G p.2
theorem FrLe.nil{hp:List Ow}{m:Nat}{h:List (Nat×AV)}:FrLe hp m h []:=λp hp=>by cases hp
theorem FrLe.cons{m:Nat}{q r:List (Nat×AV)}{t:Nat}{x y:AV}(h:Ce q t=some x)(I:AVle H m x y)(Y:FrLe H m q r):FrLe H m q ((t,y)::r):=λp H=>by
 rcases YaL.1 H with rfl | H
 .exact ⟨x,h,I⟩
 .exact Y p H
def OwLe(F:List Ow)(m:Nat):Ow->Ow->Prop
 |_,.dead=>True
 |.var T cells,.var t C=>T=t/\cells.length=C.length/\∀(k:Nat) y,C[k]? = some y->∃x,cells[k]? = some x/\AVle F m x y
 |.row T A B,.row t H P=>T=t/\A=H/\B=P
 |.obj O,.obj S=>O=S
 |.pin l,.pin i=>l.length=i.length/\∀(k:Nat) q,i[k]? = some q->∃p,l[k]? = some p/\p.1=q.1/\AVle F m p.2 q.2
 |_,_=>False
theorem OwLe.dead{m:Nat}{x:Ow}:OwLe H m x .dead:=by cases x<;>trivial
theorem OwLe.row{hp:List Ow}{m T sz:Nat}{r q:List (List D)}(h:r=q):OwLe hp m (.row T sz r) (.row T sz q):=⟨rfl,rfl,h⟩
theorem OwLe.obj{m:Nat}{O S:OD}(h:O=S):OwLe H m (.obj O) (.obj S):=h
theorem OwLe.pin{m:Nat}{l:List (Value×AV)}(h:∀p∈l,AVle H m p.2 p.2):OwLe H m (.pin l) (.pin l):=⟨rfl,λk q A=>⟨q,A,rfl,h q (Yaz A)⟩⟩
theorem OwLe.var{m T:Nat}{c l:List AV}(I:c.length=l.length)(h:∀(k:Nat) y,l[k]? = some y->∃x,c[k]? = some x/\AVle H m x y):OwLe H m (.var T c) (.var T l):=⟨rfl,I,h⟩
theorem OwLe.varD{m T:Nat}{c l:List D}(h:c=l):OwLe H m (.var T (c.map .d)) (.var T (l.map .d)):=by
 subst h;refine⟨rfl,rfl,λk y M=>⟨y,M,?_⟩⟩;rw[Yav]at M
 cases B:c[k]? with
 |none=>rw[B]at M;cases M
 |some x=>rw[B]at M;cases M;exact AVle.d rfl
def HpLe(F:List Ow)(m:Nat):List Ow->List Ow->Prop
 |_,[]=>True
 |x::l,y::r=>OwLe F m x y/\HpLe F m l r
 |[],_::_=>False
theorem HpLe.nil{hp:List Ow}{m:Nat}{l:List Ow}:HpLe hp m l []:=by cases l<;>trivial
theorem HpLe.cons{m:Nat}{x y:Ow}{l r:List Ow}(h:OwLe H m x y)(Y:HpLe H m l r):HpLe H m (x::l) (y::r):=⟨h,Y⟩
theorem HpLe.get{F:List Ow}{m:Nat}:∀{l r:List Ow},HpLe F m l r->∀(i:Nat) y,r[i]? = some y->∃x,l[i]? = some x/\OwLe F m x y
 |_,[],_,i,y,h=>by cases h
 |[],_::_,h,_,_,_=>h.elim
 |x::l,y::r,⟨q,A⟩,0,z,h=>by cases h;exact⟨x,rfl,q⟩
 |x::l,y::r,⟨q,A⟩,i+1,z,h=>HpLe.get A i z Zdj
theorem Ac{σ τ:AS}(I:FrLe σ.hp τ.hp.length σ.fr τ.fr)(Y:HpLe σ.hp τ.hp.length σ.hp τ.hp):AS.le σ τ:=by
 intro N n a w ⟨s,V,c,h⟩
 have xb:∀(i:Nat) (M:Ow),τ.hp[i]? = some M->∀b,OwB s (V i) M b->∃o:Ow,σ.hp[i]? = some o/\OwB s (V i) o b:=λi M J b E=>by
  obtain⟨o,A,B⟩:=Y.get i M J;refine⟨o,A,?_⟩;cases o<;>cases M<;>first | exact B.elim | exact E.elim | exact E | (replace B:_=_:=B;subst B;exact E)
 refine⟨s,V,c,h.le,h.ok,λt W L=>?_,h.sz,h.df,λi M J=>?_,λi j o M r J X b E d=>?_,λi o b J E=>?_⟩
 .obtain ⟨xa,A,B⟩:=I _ (Fj L)
  exact B _ _ _ _ h.hp (h.fr t xa A)
 .obtain ⟨o,A,B⟩:=Y.get i M J
  have K:=h.hp i o A
  cases M with
  |dead=>trivial
  |var T cells=>
   cases o with
   |dead=>exact B.elim
   |row=>exact B.elim
   |obj=>exact B.elim
   |pin=>exact B.elim
   |var Z xc=>
    obtain⟨rfl,G,H⟩:=B;obtain⟨b,f,z,v,R,p4,p5,p6,p7⟩:=K;refine⟨b,f,z,v,R,p4.trans G,p5,p6,λk W C=>?_⟩;obtain⟨x,e,g⟩:=H k W C;obtain⟨u,P,U,q5⟩:=p7 k x e;exact⟨u,P,U,g _ _ _ _ h.hp q5⟩
  |row T F S=>
   cases o with
   |dead=>exact B.elim
   |var=>exact B.elim
   |obj=>exact B.elim
   |pin=>exact B.elim
   |row Z xe xd=>
    obtain⟨rfl,rfl,rfl⟩:=B;exact K
  |obj O=>
   cases o with
   |obj O0=>
    replace B:O0=O:=B;subst B;exact K
   |_=>exact B.elim
  |pin l=>
   cases o with
   |pin l0=>
    intro q m;obtain⟨k,C⟩:=YbO m;obtain⟨p,e,g,P⟩:=B.2 k q C;have:=P _ _ _ _ h.hp (K p (Yaz e));rwa [g]at this
   |_=>exact B.elim
 .obtain ⟨x,A,B⟩:=xb i o J b E
  obtain⟨y,K,Q⟩:=xb j M X b d;exact h.sep i j x y r A K b B Q
 .obtain ⟨x,A,B⟩:=xb i o J b E
  exact h.own i x b A B
def params:Nat->List D->List (Nat×AV)
 |_,[]=>[]
 |i,d::S=>(i,.d d)::params (i+1) S
theorem Lw:∀{S:List D} {i t:Nat} {G:AV},Ce (params i S) t=some G->i<=t/\t-i<S.length/\G=.d (Dd S (t-i))
 |[],i,t,G,h=>by cases h
 |d::S,i,t,G,h=>by
  unfold params at h;rw[CX]at h;split at h
  .rename_i e
   subst e;cases h;exact⟨Yai _,by simp,by simp[Dd]⟩
  .rename_i e
   obtain⟨q,A,K⟩:=Lw h;refine⟨by omega,by simp;omega,?_⟩;rw[K,show t-i=(t-(i+1))+1 by omega];simp[Dd]
def Fp(C:Array Value):ResultVar->Sem Value
 |.tmp t=>pure (C.getD t undef)
 |.cell a t=>do loadVar t (<-asAddr (C.getD a undef))
structure ResV(P:Program)(σ:AS)(rv:ResultVar)(x:D):Prop where
 run:∀(base:Nat) (ρ:Nat->Value) (s:GS) (tmps:Array Value),HpOk base ρ s σ.hp->(∀t av,Ce σ.fr t=some av->AVr σ.hp.length ρ s av (tmps.getD t undef))->∃v,(Fp tmps rv).run P s.w=.ok v s.w/\x.rel s v
theorem ResV.tmp{σ:AS}{t:Nat}{x:D}(q:Ce σ.fr t=some h)(C:HO σ.hp h=some x):ResV P σ (.tmp t) x:=⟨λbase V s A n c=>⟨_,rfl,DV n (c t h q) C⟩⟩
theorem ResV.cell{σ:AS}{t T o n b id:Nat}{d:TypeDesc}(h:Ce σ.fr t=some (.ptr id 0))(N:σ.hp[id]? = some (.var o R))(L:Tab P T d n b z)(q:ES d=true)(G:A19 σ.hp R=some v)(C:R.length=n):ResV P σ (.cell t T) (AP v):=by
 refine⟨λbase V s r c l=>?_⟩;obtain⟨-,g,K,W⟩:=l t _ h;obtain⟨w,A,Q,E,J,M,x,Z,a⟩:=c id _ N;rw[K]at Q;cases Q;obtain⟨I,F⟩:=Td G;have S:v.length=n:=by rw[<-I];exact C
 have key:∀j,∃u,j<n->s.w.cell? ⟨g,0+j,none⟩=some u/\u.oneCell'=true/\(Dd v j).rel s u:=λj=>by
  by_cases X:j<n
  .have O:j<R.length:=by omega
   obtain⟨u,e,i,m⟩:=a j _ (Yab O);refine⟨u,λ_=>⟨by rw[YaH];exact(CU J).trans e,i,?_⟩⟩;exact DV c m (F j _ (Yab O))
  .exact ZjO
 obtain⟨f,p⟩:∃f:Nat->Value,∀j,j<n->s.w.cell? ⟨g,0+j,none⟩=some (f j)/\(f j).oneCell'=true/\(Dd v j).rel s (f j):=⟨λj=>(key j).choose,λj X=>(key j).choose_spec X⟩;have Y:=Lr L q g 0 f λj X=>(p j X).1;refine⟨.agg ((List.range n).map f).toArray,?_,_,rfl,by simp[S],λk B=>?_⟩
 .simp [Fp,W,asAddr,Y]
 .rw [S]at B
  exact⟨f k,by simp[B],(p k B).2⟩
structure Rets(P:Program)(σ:AS)(rs:Array ResultVar)(r:D):Prop where
 run:∀(base:Nat) (ρ:Nat->Value) (s:GS) (tmps:Array Value) (fn:Func),fn.results=rs->HpOk base ρ s σ.hp->(∀t av,Ce σ.fr t=some av->AVr σ.hp.length ρ s av (tmps.getD t undef))->∃v,(results fn tmps).run P s.w=.ok v s.w/\r.rel s v
theorem Nb{U M T:Type}(r:Result U)(f:U->World->Result M)(g:M->World->Result T):(r.andThen f).andThen g=r.andThen λa w=>(f a w).andThen g:=by cases r<;>rfl
theorem UF{rv:ResultVar}(h:vQ.results=#[rv])(r:(Fp vB rv).run P w=.ok z w):(results vQ vB).run P w=.ok z w:=by
 unfold results;rw[h]
 cases rv with
 |tmp t=>simp[Fp]at r ⊢;exact r
 |cell a T=>simp[Fp]at r ⊢;exact r
theorem A3l(h:vQ.results=#[uK,xa])(r:(Fp vB uK).run P w=.ok z w)(q:(Fp vB xa).run P w=.ok u w):(results vQ vB).run P w=.ok (.tuple #[z,u]) w:=by
 have key:(results vQ vB).run P w=((Fp vB uK).run P w).andThen λa N=>((Fp vB xa).run P N).andThen λb X=>.ok (.tuple #[a,b]) X:=by
  unfold results;rw[h];cases uK<;>cases xa<;>simp[Fp,Nb]
 rw[key,r,Result.andThen_ok,q,Result.andThen_ok]
theorem Am{x r:D}(h:ResV P ve uK x)(I:D.le x r):Rets P ve #[uK] r:=⟨λbase V s C c p n B=>by
 obtain⟨v,q,A⟩:=h.run base V s C n B;exact⟨v,UF p q,I s v A⟩⟩
theorem Rets.of2(h:ResV P ve uK r)(b:ResV P ve xa vv)(I:D.le (FA [r,vv]) uq):Rets P ve #[uK,xa] uq:=⟨λbase V s E c p n C=>by
 obtain⟨v,q,A⟩:=h.run base V s E n C;obtain⟨X,K,Q⟩:=b.run base V s E n C;refine⟨_,A3l p q K,I s _ ⟨_,rfl,rfl,λk B=>?_⟩⟩
 match k,B with
 |0,_=>exact⟨_,rfl,A⟩
 |1,_=>exact⟨_,rfl,Q⟩
 |k+2,B=>exact absurd B ZbR⟩
structure Fin(P:Program)(fn:Func)(r:D)(e:Exit)(σ:AS):Prop where
 how:e=.ret\/e=.normal
 res:Rets P σ fn.results r
theorem AA(h:Rets P ve vQ.results r):Fin P vQ r .ret ve:=⟨.inl rfl,h⟩
theorem Abs.intro{f:FuncId}{c:Code}{ds:List D}(p:P.funcs[f]? = some vQ)(E:vQ.body=some c)(X:∀args w,(callFunc f args).run P w=.ok (.enter f args) w)(g:Nat.ble ds.length vQ.ntmps=true)
  (h:∀y,AWp P y vQ.ntmps c (Fin P vQ r) ⟨params 0 ds,[]⟩):Abs P f ds r:=by
 refine⟨X,λs O G I F=>calls_of_wp p E ?_⟩;have l:ds.length<=vQ.ntmps:=by simpa[YdL]using g
 refine wp_mono ((h ⟨s,λ_=>False,[]⟩).run { tmps:=O.toArray++Array.replicate (vQ.ntmps-O.toArray.size) undef,defers:=[] } s.w ⟨s,λ_=>undef,rfl,GS.LeX.refl _ s,G,λt N L=>?_,by simp;omega,rfl,(λi o J=>by cases J),(λi j o x _ J=>by cases J),(λi o b J=>by cases J)⟩) ?_
 .obtain ⟨_,A,K⟩:=Lw L
  rw[Nat.sub_zero]at A K;subst K;have Q:=F t A;show(Dd ds t).rel s ((O.toArray++Array.replicate (vQ.ntmps-O.toArray.size) undef).getD t undef)
  have:(O.toArray++Array.replicate (vQ.ntmps-O.toArray.size) undef).getD t undef=O.getD t undef:=by
   exact ZiB
  rw[this];exact Q
 .intro e a w ⟨W,⟨B,M⟩,C,V,S,u⟩
  subst S;obtain⟨v,q,A⟩:=M.run _ V C a.tmps vQ rfl u.hp u.fr;rcases B with rfl | rfl
  .exact ZjS
  .exact ZjS
inductive HR
 |av (r:AV)
 |new (T:TypeId) (cs:List Value)
def HR.val:HR->AV
 |.av r=>r
 |.new _ _=>.d Cs
def DN(e:AS)(rs:List HR)(z:List (Nat×Nat)):Operand->AV
 |.tmp t=>match z.find? (λp=>p.1==t)with
  |some p=>match rs[p.2]? with
   |some h=>h.val
   |none=>.d Cs
  |none=>(Ce e.fr t).getD (.d Cs)
 |.global _=>.d Cs
 |x=>e.arg x
def HStep(P:Program)(e:AS)(rs:List HR)(q:List (Nat×Nat))(o:Oper):HR->Prop
 |.av r=>(o.guard=none/\Quiet P e.hp o (DN e rs q) r)\/∃j b u,o.guard=some (j,b)/\rs[j]? = some (.av (.d (ex u)))/\((u=.bool b/\Quiet P e.hp o (DN e rs q) r)\/(u≠.bool b/\r=.d (ex undef)))
 |.new T f=>o.guard=none/\o.op=.alloc T/\T≠335/\Ih f=true/\∃d n b z,Tab P T d n b z/\z.cells.toList=f
def HSteps(P:Program)(e:AS)(rs:List HR):List Oper->List (List (Nat×Nat))->List HR->Prop
 |o::L,x::S,r::T=>HStep P e rs x o r/\HSteps P e rs L S T
 |_,[],[]=>True
 |_,_,_=>False
theorem HSteps.nil{σ:AS}{rs:List HR}{L:List Oper}:HSteps P σ rs L [] []:=by cases L<;>trivial
theorem HStep.q{σ:AS}{rs:List HR}{r:AV}(R:va.guard=none)(h:Quiet P σ.hp va (DN σ rs vw) r):HStep P σ rs vw va (.av r):=.inl ⟨R,h⟩
variable{ur:List HR}
theorem AZ{r:AV}{j:Nat}{b:Bool}(R:va.guard=some (j,b))(X:ur[j]? = some (.av (.d (eB b))))(h:Quiet P ve.hp va (DN ve ur vw) r):HStep P ve ur vw va (.av r):=.inr ⟨j,b,.bool b,R,X,.inl ⟨rfl,h⟩⟩
theorem A7h{j:Nat}(R:va.guard=some (j,o))(X:ur[j]? = some (.av (.d (ex z))))(A:isB z o=false):HStep P ve ur vw va (.av (.d (ex undef))):=.inr ⟨j,o,z,R,X,.inr ⟨A6d A,rfl⟩⟩
theorem HStep.n{σ:AS}{rs:List HR}{o:Oper}{T n b:Nat}{d:TypeDesc}(R:o.guard=none)(L:Tab P T d n b z)(F:o.op=.alloc T)(e:T≠335)(q:Ih z.cells.toList=true):HStep P σ rs vw o (.new T z.cells.toList):=⟨R,F,e,q,d,n,b,z,L,rfl⟩
def AS.aft(e:AS):List Oper->List HR->AS
 |o::L,.av r::d=>AS.aft (e.put o.dst r) L d
 |o::L,.new T f::d=>AS.aft (e.new o.dst (.ptr e.hp.length 0) (.var T (exs f))) L d
 |_,_=>e
def HFact(m:Nat)(ρ:Nat->Value)(W:Nat)(i:Nat):HR->Value->GS->Prop
 |.av r=>λv s=>AVr m ρ s r v
 |.new T f=>λv s=>∃b,v=.pointer (some ⟨b,0,none⟩)/\W<=b/\s.w.heap[b]? = some (.cells f.toArray T (0,0))/\(∀k,¬s.S b k)/\s.tag b=i+1/\T≠335/\Ih f=true
theorem HFact.st{m:Nat}{ρ:Nat->Value}{W i:Nat}{r:HR}:RegG.Stab (HFact m ρ W i r):=λv s j I h=>by
 cases r with
 |av r=>exact AVr.chg h I.chg
 |new T f=>
  obtain⟨b,q,A,K,Q,C,E,g⟩:=h;exact⟨b,q,A,(I.ext.block (Bv K)).trans K,λk B=>Q k (I.old b k (Bv K) B),(I.tag b (Bv K)).trans C,E,g⟩
def facts(m:Nat)(ρ:Nat->Value)(W:Nat):Nat->List HR->List RegG.VFact
 |_,[]=>[]
 |i,r::d=>HFact m ρ W i r::facts m ρ W (i+1) d
theorem Ob{m:Nat}{ρ:Nat->Value}{W:Nat}:∀{d:List HR} {i j:Nat} {r:HR},d[j]? = some r->(facts m ρ W i d)[j]? = some (HFact m ρ W (i+j) r)
 |[],i,j,r,h=>by cases h
 |x::d,i,0,r,h=>by cases h;rfl
 |x::d,i,j+1,r,h=>by
  have:=Ob (m:=m) (ρ:=ρ) (W:=W) (i:=i+1) (by simpa using h:d[j]? = some r);simp only[facts,YcZ,this];congr 2;omega
theorem SM{m:Nat}{V:Nat->Value}{W:Nat}:∀(d:List HR) (i:Nat),RegG.StabAll (facts m V W i d)
 |[],_=>trivial
 |_::d,i=>⟨HFact.st,SM d (i+1)⟩
theorem UX{m:Nat}{V:Nat->Value}{W:Nat}:∀(d:List HR) (i:Nat),(facts m V W i d).length=d.length
 |[],_=>rfl
 |_::d,i=>by simp[facts,UX d (i+1)]
theorem A1a{s0:An}{n:Nat}{s':GS}{m W:Nat}{ρ0:Nat->Value}{g:Nat->Value}:∀{L:List Oper} {rs:List HR} {i:Nat} {σ:AS} {a:Act} {ρ:Nat->Value},L.length=rs.length->StI s0 n σ a s' ρ->m<=σ.hp.length->(∀j,j<m->ρ j=ρ0 j)->s0.g.w.heap.size<=W ->
  (∀k o b,σ.hp[k]? = some o->OwB s' (ρ k) o b->b<W\/∃j,j<i/\s'.tag b=j+1)->(∀(j:Nat) r,rs[j]? = some r->HFact m ρ0 W (i+j) r (g (i+j)) s')->Ia L L.length n=true->∃ρ',StI s0 n (σ.aft L rs) (FH g L i a) s' ρ'
 | [],[],i,σ,a,ρ,_,h,_,_,_,_,_,_=>⟨ρ,h⟩
 | [],_::_,_,_,_,_,hl,_,_,_,_,_,_,_=>by simp at hl
 | _::_,[],_,_,_,_,hl,_,_,_,_,_,_,_=>by simp at hl
 | o::L,r::rs,i,σ,a,ρ,hl,h,hm,hρ,hW,hb,hf,hd=>by
  have hd1:∀d,o.dst=some d->d<n:=λd hdo=>by
   have h2:=Yah.1 hd o (by simp)
   simp only [hdo,YaZ] at h2
   exact h2
  have hd2:Ia L L.length n=true:=Yah.2 λx hx=>Yah.1 hd x (by simp at hx ⊢;exact .inr hx)
  have hf0:=hf 0 r rfl
  rw [Ybf] at hf0
  have hf':∀(j:Nat) r',rs[j]? = some r'->HFact m ρ0 W (i+1+j) r' (g (i+1+j)) s':=λj r' hj=>by
   have:=hf (j+1) r' (by simpa using hj)
   rw [show i+(j+1)=i+1+j by omega] at this
   exact this
  cases r with
  | av r=>
   have h1:=h.put (GS.Le.refl s') hd1 (v:=g i) (r:=r) (hf0.mono hm hρ)
   refine A1a (L:=L) (rs:=rs) (i:=i+1) (by simpa using hl) h1 ?_ hρ hW ?_ hf' hd2
   .cases hdo:o.dst<;>exact hm
   .intro k o' b hk hv
    have hk':σ.hp[k]? = some o':=by cases hdo:o.dst<;>(rw [hdo] at hk;exact hk)
    rcases hb k o' b hk' hv with h2 | ⟨j,h2,h3⟩
    .exact .inl h2
    .exact .inr ⟨j,by omega,h3⟩
  | new T cs=>
   obtain ⟨b,e1,e2,e3,e4,e5,e6,e7⟩:=hf0
   have h1:=h.newG (GS.Le.refl s') hd1 (v:=g i) (u:=.pointer (some ⟨b,0,none⟩)) (r:=.ptr σ.hp.length 0) (ow:=.var T (exs cs)) ⟨by omega,b,by simp,e1⟩ ?_ ?_ (λb' hb'=>by cases hb';exact .inr (Yau hW e2))
   .refine A1a (L:=L) (rs:=rs) (i:=i+1) (by simpa using hl) h1 (by show m<=(σ.hp++[_]).length; simp; omega) (λj hj=>by rw [Yaj (by omega)]; exact hρ j hj) hW ?_ hf' hd2
    intro k o' b' hk hv
    replace hk:(σ.hp++[Ow.var T (exs cs)])[k]? = some o':=hk
    rw [YaQ] at hk
    split at hk
    .rename_i hlt
     rw [Yaj (by omega)] at hv
     rcases hb k o' b' hk hv with h2 | ⟨j,h2,h3⟩
     .exact .inl h2
     .exact .inr ⟨j,by omega,h3⟩
    .rename_i hge
     have:k=σ.hp.length:=by
      have:=Cu hk
      simp at this
      omega
     subst this
     rw [Yao rfl] at hv
     have ho:o' = .var T (exs cs):=by simp at hk;exact hk.symm
     subst ho
     cases hv
     exact .inr ⟨i,by omega,e5⟩
   .refine ⟨b, cs.toArray, by simp, Yay _, e3, by simp [exs], e6, e4, λk av hk=>?_⟩
    unfold exs at hk
    rw [Yav] at hk
    cases hz:cs[k]? with
    | none=>rw [hz] at hk;cases hk
    | some u=>
     rw [hz] at hk
     cases hk
     exact ⟨u,by simpa using hz,Yah.1 e7 u (Yaz hz),rfl⟩
   .intro b' hb' k o' hk hv
    cases hb'
    rcases hb k o' b hk hv with h2 | ⟨j,h2,h3⟩
    .omega
    .omega
structure DrawOk(P:Program)(s0:An)(n:Nat)(id:Nat)(L0:Array Oper)(L:List Oper)(Q0 Q:Exit->AS->Prop):Prop where
 run:∀(a:Act) (w:World),wpAny P .any L.toArray (GR s0 n Q) L.toArray.size (Array.replicate L.toArray.size false) a w.drew->(Code.region id L0 true).wp P (GR s0 n Q0) a w
theorem Fc{s0:An}{n:Nat}{L:List Oper}{Q:Exit->AS->Prop}(v:P.follows .mixedOrders=true):DrawOk P s0 n b L.toArray L Q Q:=⟨λ_ _ h=>wp_region_any v h⟩
theorem A7y{P:Program}{s0:An}{n:Nat}{Q Q0:Exit->AS->Prop}{σ:AS}{id:Nat}{L0:Array Oper}{L:List Oper}(hm:DrawOk P s0 n id L0 L Q0 Q)(es:List (List (Nat×Nat)))(bs:List (List Nat))(rs:List HR)(hlen:(es.length==bs.length&&es.length==rs.length&&Nat.ble rs.length L.length)=true)(hok:Ee L (Gq 0 es bs)=true)(hd:Ia L es.length n=true)(steps:HSteps P σ rs L es rs)
  (tail:AWl P s0 n L.toArray Q (L.drop es.length) (σ.aft (L.take es.length) rs)):AWp P s0 n (.region id L0 true) Q0 σ:=by
 refine ⟨λa w ⟨s,ρ,hw,hst⟩=>?_⟩
 subst hw
 simp only [Yam,YcI,YdL] at hlen
 obtain ⟨⟨hl1,hl2⟩,hl3⟩:=hlen
 refine RegG.wp_region_v (hm.run a s.w) es bs (facts σ.hp.length ρ s.w.heap.size 0 rs) (by rw [UX];simp [hl1,hl2];omega) hok (by rw [hst.sz];exact hd) (SM rs 0) ?_ λg s' hE hF=>?_
 .have hle0:GS.Le s s.dr:=Kq s
  have step:∀(o:Oper) (x:List (Nat×Nat)) (r:HR) (i:Nat),HStep P σ rs x o r->RegG.UStep P (facts σ.hp.length ρ s.w.heap.size 0 rs) a s.dr o x (HFact σ.hp.length ρ s.w.heap.size i r):=by
   intro o x r i hr s1 ev hE hk ha hc hf
   have hle:GS.Le s s1:=hle0.trans hE
   have hhp:=hst.hp.le hle
   have hok1:=hle.ok hst.ok
   have hbase:0<=s1.w.heap.size:=Yay _
   have hknown:∀(x:List (Nat×Nat)),RegG.OpsKnown (facts σ.hp.length ρ s.w.heap.size 0 rs) ev s1 x->∀p∈x,∀F,(facts σ.hp.length ρ s.w.heap.size 0 rs)[p.2]? = some F->F (ev (.tmp p.1)) s1:=by
    intro x
    induction x with
    | nil=>intro _ p hp;cases hp
    | cons q x ih=>
     intro h p hp
     obtain ⟨t,j⟩:=q
     rcases YaL.1 hp with rfl | hp
     .exact h.1
     .exact ih h.2 p hp
   have hargs:∀y,y∈o.op.operands->AVr σ.hp.length ρ s1 (DN σ rs x y) (ev y):=by
    intro y _
    cases y with
    | tmp t=>
     show AVr _ ρ s1 (match x.find? (λp=>p.1==t) with
      | some p=>match rs[p.2]? with
       | some h=>h.val
       | none=>.d Cs
      | none=>(Ce σ.fr t).getD (.d Cs)) _
     cases hfd:x.find? (λp=>p.1==t) with
     | some p=>
      have hp:p∈x:=Ybp hfd
      have hpt:p.1=t:=by simpa using YcJ hfd
      simp only
      cases hrp:rs[p.2]? with
      | none=>trivial
      | some h=>
       have h1:=hknown x hk p hp _ (Ob hrp)
       rw [hpt] at h1
       cases h with
       | av r=>exact h1
       | new T cs=>trivial
     | none=>
      simp only
      rw [ha t λp hp e=>by have:=Ycl.1 hfd p hp;simp [e] at this]
      exact (hst.arg (.tmp t)).chg hle.chg
    | const v=>show ev _=v;exact hc v
    | global b=>
     trivial
    | func f=>show ev _=_;exact hf f
   cases r with
   | av r=>
    rcases hr with ⟨hg,hq⟩ | ⟨j,b,c,hg,hj,hq⟩
    .rw [hg]
     exact hq.run _ s1 ρ ev hok1 hbase hhp hargs
    .rw [hg]
     intro gv hgv
     have h1:=hgv _ (Ob hj)
     have e1:gv=c:=h1
     rcases hq with ⟨rfl,hq⟩ | ⟨hne,rfl⟩
     .exact ⟨λ_=>hq.run _ s1 ρ ev hok1 hbase hhp hargs,λh=>absurd e1 h⟩
     .exact ⟨λh=>by rw [e1] at h;exact absurd h hne,λ_=>rfl⟩
   | new T cs=>
    obtain ⟨hg,hop,hT,h1,d,k,b,z,ht,hz⟩:=hr
    rw [hg]
    subst hz
    have hrun:(execOp ev o).run P s1.w = .ok (.value (.pointer (some ⟨s1.w.heap.size,0,none⟩))) (s1.w.alloc (.cells z.cells T)):=by
     simp [execOp,hop,Instr.alloc,ht.run_zero,IM]
    refine Jp hrun (s1.mk' z.cells T (i+1)) rfl ⟨s1.le_mk' z.cells T (i+1) hT,s1.w.heap.size,rfl,hle.ext.size,heap_alloc_new s1.w _,λk hk=>absurd (hok1.lt _ _ hk) (Ycm _),?_,hT,h1⟩
    show (if s1.w.heap.size=s1.w.heap.size then i+1 else _)=i+1
    rw [Yao rfl]
  have all:∀(L:List Oper) (es:List (List (Nat×Nat))) (T:List HR) (i:Nat),HSteps P σ rs L es T->RegG.USteps P (facts σ.hp.length ρ s.w.heap.size 0 rs) a s.dr L es (facts σ.hp.length ρ s.w.heap.size i T):=by
   intro L
   induction L with
   | nil=>
    intro es T i h
    cases es with
    | nil=>cases T with
     | nil=>trivial
     | cons=>exact h.elim
    | cons=>cases T<;>exact h.elim
   | cons o L ih=>
    intro es T i h
    cases es with
    | nil=>cases T with
     | nil=>trivial
     | cons=>exact h.elim
    | cons x es=>cases T with
     | nil=>exact h.elim
     | cons r T=>exact ⟨step o x r i h.1,ih es T (i+1) h.2⟩
  exact all L es rs 0 steps
 .have hle:GS.Le s s':=(Kq s).trans hE
  have hst':StI s0 n σ a s' ρ:=hst.put hle (dst:=none) (λd hd=>by cases hd) (v:=undef) (r:=.d Cs) trivial
  have htl:(L.take es.length).length=rs.length:=by simp;omega
  obtain ⟨ρ',hfin⟩:=A1a (g:=g) (L:=L.take es.length) (rs:=rs) (i:=0) (W:=s.w.heap.size) (m:=σ.hp.length) (ρ0:=ρ) htl hst' (Yai _) (λ_ _=>rfl) hst.le.size (λk o b hk hv=>.inl ((hst.hp k o hk).blk_lt0 (OwB.le (hst.hp k o hk) hle hv))) (λj r hj=>by
   rw [YaH]
   have:=hF j _ (Ob hj)
   rwa [YaH] at this) (by
   have:(L.take es.length).take (L.take es.length).length=L.take es.length:=YaY
   unfold Ia
   rw [this]
   exact hd)
  exact tail.run _ _ ⟨s',ρ',rfl,hfin⟩
section
variable {P:Program} {s0:An} {n:Nat} {Q:Exit->AS->Prop} {σ:AS}
theorem KY(h:uw σ):AThen uw Q .normal σ:=⟨h⟩
theorem Dv(h:Q .ret σ):AThen uw Q .ret σ:=⟨h⟩
theorem Bz{i:Nat}(h:Q (.exit i) σ):AThen uw Q (.exit i) σ:=⟨h⟩
theorem Bg{i:Nat}(h:Q .normal σ):ABlock i Q .normal σ:=⟨h⟩
theorem DX{i:Nat}(h:Q .ret σ):ABlock i Q .ret σ:=⟨h⟩
theorem BE{i:Nat}(h:Q .normal σ):ABlock i Q (.exit i) σ:=⟨by
 show(if i=i then Q .normal σ else Q (.exit i) σ);rw[Yao rfl];exact h⟩
theorem A02{i j:Nat}(A:Nat.beq j i=false)(h:Q (.exit j) σ):ABlock i Q (.exit j) σ:=⟨by
 show(if j=i then Q .normal σ else Q (.exit j) σ);rw[Yaj (YaJ A)];exact h⟩
theorem IJ{m:Nat}(h:Q .ret σ):ALoop xb m Q .ret σ:=⟨h⟩
theorem BM{m i:Nat}(h:Q (.exit i) σ):ALoop xb m Q (.exit i) σ:=⟨h⟩
theorem Ai{m:Nat}(x:Nat){τ:AS}(v:x<m)(q:xb x τ)(I:AS.le σ τ):ALoop xb m Q .normal σ:=⟨x,v,τ,q,I⟩
end
def Ac8(seen:List (Nat×Nat))(i:Nat):List Oper->List (List (Nat×Nat))
 |[]=>[]
 |o::L=>(o.op.operands.toList.filterMap λy=>match y with
  |.tmp t=>seen.find? λp=>Nat.beq p.1 t
  |_=>none)::Ac8 (match o.dst with
  |some d=>(d,i)::seen
  |none=>seen) (i+1) L
def Ho(L:List Oper):List (List (Nat×Nat)):=Ac8 [] 0 L
def flD(T:TypeId)(l:Nat)(B:List (List D)):D:=⟨λs v=>(slD T l B).rel s v/\∃A,v=.slice A B.length B.length,λh G=>⟨(slD T l B).st h.1 G,h.2⟩⟩
section
variable {P:Program} {hp:List Ow} {o:Oper} {arg:Operand->AV}
theorem Xh{e n b I H T l:Nat}{d:TypeDesc}(Q:o.op=.slice t x none (some y) (some vT))(E:HO hp (arg x)=some (slD T l vk))(L:Tab P t (.slice e) n b z)(G:Tab P e d I H u)(v:I=l)(M:arg y=.d (eN vj))(r:arg vT=.d (eN vj))(X:vj<=vk.length):Quiet P hp o arg (.d (flD T l (vk.take vj))):=by
 refine⟨λbase s V i O j Z h=>?_⟩;obtain⟨A,c,W,q,B,K⟩:=DV Z (h x ZeQ) E;subst v
 have Y:i y=.int .i64 (vj:Nat):=by
  have:=h y ZeQ;rw[M]at this;exact this
 have a:i vT=.int .i64 (vj:Nat):=by
  have:=h vT ZeQ;rw[r]at this;exact this
 have w:(vj:Int)<=c:=by omega
 have F:(Instr.sliceBounds true vk.length c none (some (.int .i64 (vj:Nat))) (some (.int .i64 (vj:Nat)))).run P s.w=.ok (0,vj,vj) s.w:=by
  simp[Instr.sliceBounds,Instr.sliceBound,asIntOf,w]
 have m:(execOp i o).run P s.w=.ok (.value (.slice (if vj=0 then A else A.map (·.add (0*I))) (vj-0) (vj-0))) s.w:=by
  simp only[execOp,Q,Y,a,W,YeI,Ydd,Instr.sliceAt,Sem.run_bind,run_underlying L.und,Result.andThen_ok,Instr.slice,F,G.run_size,Sem.run_pure]
 have S:(vk.take vj).length=vj:=ZiI
 have f:∀g p,A=some ⟨g,p,none⟩->(if vj=0 then A else A.map (·.add (0*I)))=some ⟨g,p,none⟩:=λg p e=>by
  rw[e];split<;>simp[Addr.add_lit]
 refine BW m ⟨GS.Le.refl s,⟨_,vj-0,by rw[S];rfl,by rw[S];exact Yai _,by omega,λhp=>?_⟩,⟨_,by rw[S];rfl⟩⟩;rw[S]at hp;obtain⟨g,p,N,J⟩:=K ZbC;refine⟨g,p,f g p N,λk C=>?_⟩;rw[S]at C;rw[Pb C];exact J k ZbC
theorem A1A{t T T2 l bytes m b:Nat}{d:TypeDesc}(w:o.op=.call { callee:=.builtin .append,args:=#[x,y],argTypes:=#[t,t] })(G:arg x=.d (flD T l vk))(O:HO hp (arg y)=some (slD T2 l ue))(N:Tab P t (.slice T) m b u)(R:Tab P T d l bytes z)(xp:z.cells.size=l)(xk:(vk.length+ue.length)*bytes<=140737488355328)(xn:vk.length+ue.length<=4611686018427387904):Quiet P hp o arg (.d (slD T l (vk++ue))):=by
 refine⟨λbase s V e v xh xd h=>?_⟩;have xo:=h x Zfp;rw[G]at xo;obtain⟨⟨A,c,W,C,E,M⟩,⟨A',xB⟩⟩:=xo;obtain⟨B,c',r,U,h8,h9⟩:=DV xd (h y Zfp) O;rw[W]at xB;simp only[Value.slice.injEq]at xB;obtain⟨_,_,rfl⟩:=xB;obtain⟨i,K,n,xu,xv⟩:=R.info
 have xy:∀H Q,(Builtin.append_ #[t,t] o.type #[e x,e y]).run P s.w=.ok H Q->(execOp e o).run P s.w=.ok (.value H) Q:=λH Q Y=>by
  simp only[execOp,w,resolve,invoke,builtin,Sem.run_bind,Sem.run_pure,Result.andThen_ok,Yco,Ybb,Ycb,Y]
 rcases YaB ue.length with a | a
 .obtain rfl:ue=[]:=YaE a
  have Y:(Builtin.append_ #[t,t] o.type #[e x,e y]).run P s.w=.ok (e x) s.w:=by
   rw[r,W]
   cases B with
   |none=>exact run_append_nothing s.w _ _ _ _ i N.und K _ _ _ (Yai _) _ (Src.ofNil s.w N.und c')
   |some ad=>exact run_append_nothing s.w _ _ _ _ i N.und K _ _ _ (Yai _) _ (Src.ofSlice s.w N.und _ _ _ [] ZbR ZbR ZbR)
  refine BW (xy _ _ Y) ⟨GS.Le.refl s,?_⟩;rw[YbD];exact⟨A,_,W,C,E,M⟩
 .obtain ⟨g,p,rfl,xc⟩:=h9 a
  obtain⟨xg,n1,n2,n3,n4⟩:=NX xc;have xr:∀j L,xg[j]? = some L->s.w.cell? ((⟨g,p,none⟩:Addr).add j)=some L:=λj L X=>by rw[Addr.add_lit];exact n2 j L X
  have xb:xg.length=ue.length*i.size:=by rw[n1,xu]
  subst xv
  obtain⟨xs,x1,x4,x5⟩:∃xs:List Value,xs.length=vk.length*l/\(∀k j,k<vk.length->j<l->∃L,xs[k*l+j]? = some L/\L.oneCell'=true/\(Dd (vk.getD k []) j).rel s L)/\∃cap,vk.length+ue.length<=cap/\cap<=maxLen/\(Builtin.append_ #[t,t] o.type #[e x,e y]).run P s.w=.ok (.slice (some ⟨s.w.heap.size,0,none⟩) (vk.length+ue.length) cap) (s.w.drew.alloc (.cells (xs.toArray++xg.toArray++Builtin.zeroCells z.cells (cap-(vk.length+ue.length))) T)):=by
   have xz:vk.length+ue.length<=maxLen:=Zjn
   have grow:∀(ad:Addr) (xs:List Value),xs.length=vk.length*i.size->(∀j L,xs[j]? = some L->s.w.cell? (ad.add j)=some L)->A=some ad->(Builtin.append_ #[t,t] o.type #[e x,e y]).run P s.w=.ok (.slice (some ⟨s.w.heap.size,0,none⟩) (vk.length+ue.length) (grownCap s.w (vk.length+ue.length) vk.length T)) (s.w.drew.alloc (.cells (xs.toArray++xg.toArray++Builtin.zeroCells z.cells (grownCap s.w (vk.length+ue.length) vk.length T-(vk.length+ue.length))) T)):=λad xs xx xj hA=>by
    rw[W,r,hA];exact run_append_grow (P:=P) s.w t o.type T i z N.und K n ad vk.length vk.length xs xx xj ⟨g,p,none⟩ ue.length c' xg xb xr ZbC ZbC (growslice_fits ZbC xk)
   rcases YaB vk.length with k0 | k0
   .refine ⟨[], by rw [k0, YcH]; rfl, λk j F=>by omega, ?_⟩
    cases A with
    |none=>
     refine⟨grownCap s.w (vk.length+ue.length) 0 T,grownCap_ge _ _ _ _,grownCap_le_maxLen _ _ _ _ xz,?_⟩;have Y:=run_append_nil (P:=P) s.w t o.type T i z N.und K n ⟨g,p,none⟩ ue.length c' xg xb xr a ZbC (by have I:=xk;rw[k0,YaH]at I;omega);rw[W,r,k0];simpa using Y
    |some ad=>exact⟨_,grownCap_ge _ _ _ _,grownCap_le_maxLen _ _ _ _ xz,grow ad [] (by rw[k0,YcH];rfl) (λj L X=>by cases X) rfl⟩
   .obtain ⟨g1,p1,rfl,xf⟩:=M k0
    obtain⟨xs,m1,m2,m3,m4⟩:=NX xf;exact⟨xs,m1,m4,_,grownCap_ge _ _ _ _,grownCap_le_maxLen _ _ _ _ xz,grow _ xs (by rw[m1,xu]) (λj L X=>by rw[Addr.add_lit];exact m2 j L X) rfl⟩
  obtain⟨cap,xm,xi,Y⟩:=x5;obtain⟨arr,xt⟩:∃arr,arr=xs.toArray++xg.toArray++Builtin.zeroCells z.cells (cap-(vk.length+ue.length)):=⟨_,rfl⟩;rw[<-xt]at Y;have Z:Ext s.w (s.w.drew.alloc (.cells arr T)):=(Ext.refl _).drew.alloc _;have xe:=FO (s:=s) Z;have xa:(s.w.drew.alloc (.cells arr T)).heap.size=s.w.heap.size+1:=Yei ..;have J:(vk++ue).length=vk.length+ue.length:=Yac;refine Jp (xy _ _ Y) (s.grown (s.w.drew.alloc (.cells arr T))) rfl ⟨xe,_,cap,by rw[J],by rw[J];exact xm,by simpa[maxLen]using xi,λ_=>⟨s.w.heap.size,0,rfl,λk F=>?_⟩⟩;rw[J]at F
  have xw:((vk++ue).getD k []).length=l/\∀j,j<l->∃L,arr[k*l+j]? = some L/\L.oneCell'=true/\(Dd ((vk++ue).getD k []) j).rel s L:=by
   have xq:∀q L,(xs++xg)[q]? = some L->arr[q]? = some L:=λq L f=>by
    have S:=(Yae.1 f).1;rw[xt,Ydm (by simpa using S)];simpa using f
   rw[Ls];split
   .rename_i S
    have xA:(vk.getD k []).length=l:=by
     obtain⟨g1,p1,_,xf⟩:=M ZbC;exact(xf k S).1
    refine⟨xA,λj X=>?_⟩;obtain⟨L,a1,a2,a3⟩:=x4 k j S X;refine⟨L,xq _ _ ?_,a2,a3⟩;rw[Yaw (Yae.1 a1).1];exact a1
   .rename_i xl
    refine⟨(xc (k-vk.length) ZbC).1,λj X=>?_⟩;obtain⟨L,a1,a2,a3⟩:=n4 (k-vk.length) j ZbC X;refine⟨L,xq _ _ ?_,a2,a3⟩;have e3:k*l=vk.length*l+(k-vk.length)*l:=ZiK
    rw[Yak ZbC,x1,<-a1];exact Zhl
  refine⟨xw.1,arr,(0,0),heap_alloc_new s.w.drew _,λj X=>?_⟩;rw[xw.1]at X;obtain⟨L,a1,a2,a3⟩:=xw.2 j X;exact⟨.inr ⟨Yai _,by rw[xa];omega⟩,L,by rw[YaH];exact a1,a2,(Dd _ j).st a3 xe.chg⟩
theorem Ui{len n b G H:Nat}{d:TypeDesc}(c:o.op=.buildSlice t len uf.toArray)(L:Tab P t (.slice U) n b z)(F:Tab P U d G H u)(e:0<len)(g:0<G)(M:u.cells.size=G)(xi:len*G<=16777216)(q:Ih u.cells.toList=true)(Y:PartsA hp arg uf uu)(N:Ht (λi=>some (i*G,G)) (List.replicate (len*G) Cs) uu=some v):Quiet P hp o arg (.d (flD U G (FM G len v))):=by
 refine⟨λbase s V J a xc w h=>?_⟩;have A:=PartsA.rel (ev:=J) w Y λp xj=>h p.2 (by rw[c];simp only[Op.operands,YdV];exact YbU xj)
 have xd:Jg s ((Array.range (len*G)).map (λj=>u.cells[j%u.cells.size]!)) (List.replicate (len*G) Cs):=Zav
 obtain⟨xa,K,Q⟩:=LJ A xd N
 have xk:len*G≠0:=by
  have:=Yda e g;omega
 have x:(uf.toArray.map λp:Nat×Operand=>(p.1,J p.2)).toList=uf.map λp=>(p.1,J p.2):=by simp
 have R:(execOp J o).run P s.w=.ok (.value (.slice (some ⟨s.w.heap.size,0,none⟩) len len)) (s.w.alloc (.cells xa U)):=by
  have xm:∀arr,(newRow U arr).run P s.w=.ok ⟨s.w.heap.size,0,none⟩ (s.w.alloc (.cells arr U)):=λ_=>rfl;have xl:¬(len*G>2^24):=by omega
  simp only[execOp,c,Instr.buildSlice,Sem.run_bind,run_underlying L.und,Result.andThen_ok,F.run_size,Yaj xl,Yaj xk,F.run_zero,Sem.run_pure,x,K,xm]
 have Z:Ext s.w (s.w.alloc (.cells xa U)):=(Ext.refl _).alloc _;have y:=FO Z
 have I:v.length=len*G:=by
  have m:∀(l:List (Nat×List D)) (xe xh:List D),Ht (λi=>some (i*G,G)) xe l=some xh->xh.length=xe.length:=by
   intro l
   induction l with
   |nil=>intro xe xh h;cases h;rfl
   |cons p l f=>
    intro xe xh h;obtain⟨i,S⟩:=p;unfold Ht at h;simp only at h
    cases E:(Nat.beq S.length G&&Nat.ble (i*G+G) xe.length)with
    |false=>exact Zja
    |true=>
     rw[E]at h;exact Zjk
  rw[m _ _ _ N];simp
 refine Jp R (s.grown (s.w.alloc (.cells xa U))) rfl ⟨y,⟨_,len,by rw[Bo],by rw[Bo];exact Yai _,by have:=Nat.le_mul_of_pos_right len g;omega,λ_=>⟨s.w.heap.size,0,rfl,λk B=>?_⟩⟩,⟨_,by rw[Bo]⟩⟩;rw[Bo]at B
 have xg:k*G+G<=len*G:=by
  exact Zjf
 rw[Nu _ _ _ _ B];refine⟨by simp;omega,xa,(0,0),heap_alloc_new s.w _,λj X=>?_⟩;have xf:j<G:=by simp at X;omega
 refine⟨.inr ⟨Yai _,by show _<(s.w.alloc _).heap.size;simp⟩,?_⟩;rw[LP xf,Ja,YaH];obtain⟨C,r,T,xb⟩:=Q.2 (k*G+j) ZbC;exact⟨C,r,T,(Dd v _).st xb y.chg⟩
end
end
