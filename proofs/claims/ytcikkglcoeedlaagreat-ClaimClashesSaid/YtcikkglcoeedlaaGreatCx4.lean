/- Part 4 of the proof of claimClashes_holds. No condition. -/
import Derived.Deep.Upon
import Derived.Test.YtcikkglcoeedlaaGreatCx3
set_option linter.unusedSimpArgs false
set_option linter.unusedVariables false
set_option maxRecDepth 100000
namespace Go.Proofs.YtcikkglcoeedlaaGreat
variable{vc:AS}{uq:AS->Prop}{g:AV}{ud:Array Oper}{vz:Array Value}{p:Bool}{vn ua:Code}{r vu ux:D}{vK:Func}{s:GS}{vp up:List (List D)}{uv:List (Nat×List D)}{vC:List (Nat×Nat)}{ue:List (Nat×Operand)}{o uo:List AV}{c vk:List D}{l:List Nat}{H:List Ow}{b k:Nat}{uS:Nat->AS->Prop}{vg:Nat->Value}{x y:Operand}{vv:Operand->AV}{vA:Option Tmp}{vr:Ow}{P:Program}{uE uR:ResultVar}{t U:TypeId}{z v:Value}{w:World}
section
open Go.RowKit
def FG(s0:An)(n:Nat)(Q:Exit->AS->Prop):Exit->Act->World->Prop:=λe a w=>∃f,Q e f/\St s0 n f a w
structure AWp(P:Program)(s0:An)(n:Nat)(c:Code)(Q:Exit->AS->Prop)(σ:AS):Prop where
 run:∀a w,St s0 n σ a w->c.wp P (FG s0 n Q) a w
structure AWl(P:Program)(s0:An)(n:Nat)(ops:Array Oper)(Q:Exit->AS->Prop)(l:List Oper)(σ:AS):Prop where
 run:∀a w,St s0 n σ a w->wpList P ops (FG s0 n Q) l a w
def A5j(next:AS->Prop)(Q:Exit->AS->Prop):Exit->AS->Prop
 |.normal,f=>next f
 |e,f=>Q e f
structure AThen(next:AS->Prop)(Q:Exit->AS->Prop)(e:Exit)(σ:AS):Prop where
 run:A5j next Q e σ
def A3B(id:Nat)(Q:Exit->AS->Prop):Exit->AS->Prop
 |.exit j,f=>if j=id then Q .normal f else Q (.exit j) f
 |e,f=>Q e f
structure ABlock(id:Nat)(Q:Exit->AS->Prop)(e:Exit)(σ:AS):Prop where
 run:A3B id Q e σ
section
variable {P:Program} {s0:An} {n:Nat} {Q:Exit->AS->Prop} {σ:AS}
theorem Aj{x y:Code}(h:AWp P s0 n x (AThen (AWp P s0 n y Q) Q) σ):AWp P s0 n (.seq x y) Q σ:=⟨λa w b=>wp_seq (wp_mono (h.run a w b) λe B O ⟨S,⟨u⟩,A⟩=>by
 cases e with
 |normal=>exact AWp.run u B O A
 |_=>exact⟨S,u,A⟩)⟩
theorem AWp.block{id:Nat}{c:Code}(h:AWp P s0 n c (ABlock id Q) σ):AWp P s0 n (.block id c) Q σ:=⟨λa w b=>wp_block (wp_mono (h.run a w b) λe B O ⟨S,⟨u⟩,A⟩=>by
 cases e with
 |exit j=>
  show if j=id then FG s0 n Q .normal B O else FG s0 n Q (.exit j) B O
  have u:if j=id then Q .normal S else Q (.exit j) S:=u
  split
  .rename_i i;rw[if_pos i]at u;exact⟨S,u,A⟩
  .rename_i i;rw[if_neg i]at u;exact⟨S,u,A⟩
 |_=>exact⟨S,u,A⟩)⟩
theorem Gm(h:Q .normal σ):AWp P s0 n .skip Q σ:=⟨λ_ _ b=>wp_skip ⟨σ,h,b⟩⟩
theorem Cl{id:Nat}(h:Q (.exit id) σ):AWp P s0 n (.exit id) Q σ:=⟨λ_ _ b=>wp_exit ⟨σ,h,b⟩⟩
theorem BG(h:Q .ret σ):AWp P s0 n .ret Q σ:=⟨λ_ _ b=>wp_ret ⟨σ,h,b⟩⟩
theorem St.exD(C:σ.arg x=.d (ex z)){a:Act}(b:St s0 n σ a w):a.eval x=z:=by
 obtain⟨s,S,rfl,h⟩:=b;have:=h.arg x;exact ZgP
theorem MH(G:σ.arg x=.d (ex (.bool true)))(h:AWp P s0 n vn Q σ):AWp P s0 n (.cond x vn ua) Q σ:=⟨λa w b=>wp_cond_true (b.exD G) (h.run a w b)⟩
theorem MI(G:σ.arg x=.d (ex (.bool false)))(h:AWp P s0 n ua Q σ):AWp P s0 n (.cond x vn ua) Q σ:=⟨λa w b=>wp_cond_false (b.exD G) (h.run a w b)⟩
theorem HI(G:σ.arg x=.d (ex (.bool p)))(M:p=true)(h:AWp P s0 n vn Q σ):AWp P s0 n (.cond x vn ua) Q σ:=MH (by rw[G,M]) h
theorem Gn(G:σ.arg x=.d (ex (.bool p)))(M:p=false)(h:AWp P s0 n ua Q σ):AWp P s0 n (.cond x vn ua) Q σ:=MI (by rw[G,M]) h
theorem Dm(G:σ.arg x=.d (ex (.bool p)))(M:p=true->AWp P s0 n vn Q σ)(u:p=false->AWp P s0 n ua Q σ):AWp P s0 n (.cond x vn ua) Q σ:=by
 cases p with
 |true=>exact MH G (M rfl)
 |false=>exact MI G (u rfl)
def AS.le(x y:AS):Prop:=∀s0 n a w,St s0 n x a w->St s0 n y a w
theorem Hm{σ':AS}(L:AS.le σ σ')(h:AWp P s0 n vn Q σ'):AWp P s0 n vn Q σ:=⟨λa w b=>h.run a w (L _ _ _ _ b)⟩
theorem Ba{l:List Oper}{σ':AS}(L:AS.le σ σ')(h:AWl P s0 n ud Q l σ'):AWl P s0 n ud Q l σ:=⟨λa w b=>h.run a w (L _ _ _ _ b)⟩
def A5k(I:Nat->AS->Prop)(m:Nat)(Q:Exit->AS->Prop):Exit->AS->Prop
 |.normal,σ=>∃O,O<m/\∃S,I O S/\AS.le σ S
 |e,σ=>Q e σ
structure ALoop(I:Nat->AS->Prop)(m:Nat)(Q:Exit->AS->Prop)(e:Exit)(σ:AS):Prop where
 run:A5k I m Q e σ
theorem AE{c:Code}(I:Nat->AS->Prop){m:Nat}{σ':AS}(L:AS.le σ σ')(g:I m σ')(round:∀m σ,I m σ->AWp P s0 n c (ALoop I m Q) σ):AWp P s0 n (.loop c) Q σ:=by
 refine⟨λa w A b k Z=>?_⟩
 have key:∀(m:Nat) (a:Act) (w:World) (σ:AS),I m σ->St s0 n σ a w->∃e C O,FG s0 n Q e C O/\Arrives P (lone (b.at a (.code c::.inLoop c::k)) Z w) b k Z e C O:=by
  intro m
  induction m using Nat.strongRecOn with
  |_ m G=>
   intro a w σ E B;obtain⟨e,R,F,⟨X,⟨z⟩,S⟩,W⟩:=(round m σ E).run a w B b (.inLoop c::k) Z
   cases e with
   |normal=>
    obtain⟨N,u,h,U,M⟩:=z;obtain⟨v,V,K,f,Y⟩:=G N u R F h U (M _ _ _ _ S);exact⟨v,V,K,f,.of_steps (Steps.trans W (.one step_inLoop)) Y⟩
   |exit id=>exact Zhj
   |goto l=>exact Zhj
   |ret=>exact Zhj
   |panic q=>exact Zhj
   |outgrown=>exact Zhj
 obtain⟨e,C,O,z,W⟩:=key m a w σ' g (L _ _ _ _ A);exact⟨e,C,O,z,.of_steps (.one step_loop) W⟩
end
def Td(g:Option Tmp)(n:Nat):Bool:=match g with | some d=>Nat.blt d n | none=>true
theorem IG{n:Nat}(h:Td vA n=true):∀d,vA=some d->d<n:=λd W=>by subst W;exact by simpa[Td,Nat.blt_eq]using h
section
variable {P:Program} {s0:An} {n:Nat} {ops:Array Oper} {Q:Exit->AS->Prop} {rest:List Oper} {o:Oper} {σ:AS}
theorem AWp.region{id:Nat}{l:List Oper}(h:AWl P s0 n l.toArray Q l σ):AWp P s0 n (.region id l.toArray false) Q σ:=⟨λa w b=>wp_region_lit (h.run a w b)⟩
theorem AWl.nil(h:Q .normal σ):AWl P s0 n ops Q [] σ:=⟨λ_ _ b=>⟨σ,h,b⟩⟩
theorem AWl.step(G:o.guard=none)(h:∀(s:GS) (S:Nat->Value) (a:Act),StI s0 n σ a s S->∀K:Act->World->Prop,(∀E C O,AWl P s0 n ops Q rest E->St s0 n E C O->K C O)->o.wp P a s.w K (FG s0 n Q)):AWl P s0 n ops Q (o::rest) σ:=by
 refine⟨λa w ⟨s,S,V,B⟩=>?_⟩;subst V;exact wpList_plain G λK p=>h s S a B K λE C O u A=>p C O (u.run C O A)
theorem UZ{j:Nat}(G:o.guard=some (j,p))(N:(ops[j]?).bind (·.dst)=some b)(L:BR σ.fr b=some (.d (ex (.bool p))))(h:∀(s:GS) (S:Nat->Value) (a:Act),StI s0 n σ a s S->∀K:Act->World->Prop,(∀F C O,AWl P s0 n ops Q rest F->St s0 n F C O->K C O)->o.wp P a s.w K (FG s0 n Q))(W:b<n):AWl P s0 n ops Q (o::rest) σ:=by
 refine⟨λa w ⟨s,S,V,B⟩=>?_⟩;subst V;refine wpList_step λK E=>?_;have d:a.tmps.getD b undef=.bool p:=B.fr b _ L;have k:b<a.tmps.size:=by rw[B.sz];exact W
 have v:a.tmps[b]? = some (.bool p):=by
  rw[Array.getD_eq_getD_getElem?,Array.getElem?_eq_getElem k]at d;rw[Array.getElem?_eq_getElem k];exact congrArg some d
 rw[if_pos (by simp[Region.wanted,G,yielded,N,v])];exact h s S a B K λF C O u A=>E C O (u.run C O A)
def isB:Value->Bool->Bool
 |.bool c,b=>c==b
 |_,_=>false
theorem A0W(h:isB z p=false):z≠.bool p:=λe=>by
 rw[e]at h;simp[isB]at h
theorem A00{j:Nat}(A:o.guard=some (j,p))(N:(ops[j]?).bind (·.dst)=some b)(L:BR σ.fr b=some (.d (ex z)))(B:isB z p=false)(W:b<n)(k:Td o.dst n=true)(h:AWl P s0 n ops Q rest (σ.put o.dst (.d (ex undef)))):AWl P s0 n ops Q (o::rest) σ:=by
 refine⟨λa w ⟨s,S,V,u⟩=>?_⟩;subst V;refine wpList_step λK C=>?_;have d:a.tmps.getD b undef=z:=u.fr b _ L;have i:b<a.tmps.size:=by rw[u.sz];exact W
 have v:a.tmps[b]? = some z:=by
  rw[Array.getD_eq_getD_getElem?,Array.getElem?_eq_getElem i]at d;rw[Array.getElem?_eq_getElem i];exact congrArg some d
 have X:z≠.bool p:=A0W B
 rw[if_neg (by
  simp only[Region.wanted,A,yielded,N,Option.bind_some,v,beq_iff_eq];split
  .rename_i c G
   cases G;exact λe=>X (by rw[Option.some.inj e])
  .simp)]
 exact C _ _ (h.run _ _ ⟨s,S,rfl,u.put (GS.Le.refl s) (IG k) rfl⟩)
theorem Ox(b:Bz o.op=true)(W:Td o.dst n=true)(z:Quiet P σ.hp o σ.arg g)(h:AWl P s0 n ops Q rest (σ.put o.dst g)):∀(s:GS) (S:Nat->Value) (a:Act),StI s0 n σ a s S->∀K:Act->World->Prop,(∀A u O,AWl P s0 n ops Q rest A->St s0 n A u O->K u O)->o.wp P a s.w K (FG s0 n Q):=
 λs S a w K p=>RegG.opStep_wp b (λ_ _=>rfl) (z.run 0 s S a.eval w.ok (Nat.zero_le _) w.hp λx _=>w.arg x) λv c ⟨L,Y⟩=>p _ _ _ h ⟨c,S,rfl,w.put L (IG W) Y⟩
theorem A01(G:o.guard=none)(b:Bz o.op=true)(W:Td o.dst n=true)(z:Quiet P σ.hp o σ.arg g)(h:AWl P s0 n ops Q rest (σ.put o.dst g)):AWl P s0 n ops Q (o::rest) σ:=AWl.step G (Ox b W z h)
theorem Xe{j:Nat}(G:o.guard=some (j,p))(N:(ops[j]?).bind (·.dst)=some b)(L:BR σ.fr b=some (.d (ex (.bool p))))(E:b<n)(u:Bz o.op=true)(W:Td o.dst n=true)(z:Quiet P σ.hp o σ.arg g)(h:AWl P s0 n ops Q rest (σ.put o.dst g)):AWl P s0 n ops Q (o::rest) σ:=UZ G N L (Ox u W z h) E
end
section
variable {s0:An} {n:Nat} {σ:AS} {a:Act} {s:GS} {ρ:Nat->Value}
theorem BV{i:Nat}{o:Ow}(h:H[i]? = some o):i<H.length:=(List.getElem?_eq_some_iff.1 h).1
theorem OwR.mono{base m Q i:Nat}(h:OwR base m ρ s i vr)(G:m<=Q)(v:∀j,j<m->vg j=ρ j)(K:i<m):OwR base Q vg s i vr:=by
 cases vr with
 |dead=>trivial
 |var T cells=>
  obtain⟨b,Z,A,B,I,V,E,y,e⟩:=h;refine⟨b,Z,(v i K).trans A,B,I,V,E,y,λk H C=>?_⟩;obtain⟨u,L,N,M⟩:=e k H C;exact⟨u,L,N,M.mono G v⟩
 |row T q P=>
  unfold OwR;rw[v i K];exact h
 |obj O=>
  unfold OwR;rw[v i K];exact h
 |pin l=>exact λp F=>(h p F).mono G v
theorem OwR.keep{base m i:Nat}{c:GS}(h:OwR base m ρ s i vr)(G:GS.Chg s c)(E:∀b,OwB s (ρ i) vr b->c.w.heap[b]? = s.w.heap[b]? /\ ∀k,c.S b k↔s.S b k):OwR base m ρ c i vr:=by
 cases vr with
 |dead=>trivial
 |var T cells=>
  obtain⟨b,Z,A,B,I,V,L,y,e⟩:=h;obtain⟨d,v⟩:=E b (show Dc (ρ i)=some b by rw[A];rfl);refine⟨b,Z,A,B,d.trans I,V,L,λk C=>y k ((v k).1 C),λk H C=>?_⟩;obtain⟨u,M,Q,N⟩:=e k H C;exact⟨u,M,Q,N.chg G⟩
 |row T q P=>
  obtain⟨f,⟨A,B⟩,I,V,L,y⟩:=h;refine⟨f,⟨A,?_⟩,I,V,λb R k=>((E b R).2 k).trans (L b R k),λk C=>⟨(y k C).1,λj K=>?_⟩⟩
  .rcases B with B | ⟨g,cap,cur,d,v,e3,e4⟩
   .exact .inl B
   .exact .inr ⟨g,cap,cur,d,v,(E g (show Dc (ρ i)=some g by rw[d];rfl)).1.trans e3,e4⟩
  .obtain ⟨u,M,Q,N⟩:=(y k C).2 j K
   exact⟨u,M,Q,(Df _ j).st N G⟩
 |obj O=>exact(O.keep h G E).1
 |pin l=>exact λp F=>(h p F).chg G
theorem StI.newG(h:StI s0 n σ a s ρ){c:GS}(L:GS.Le s c)(W:∀d,vA=some d->d<n){v u:Value}{r:AV}{ow:Ow}(Y:AVr (σ.hp.length+1) (λi=>if i=σ.hp.length then u else ρ i) c r v)
  (F:OwR 0 (σ.hp.length+1) (λi=>if i=σ.hp.length then u else ρ i) c σ.hp.length ow) (E:∀b,OwB c u ow b->∀i o,σ.hp[i]? = some o->¬OwB s (ρ i) o b) (G:∀b,OwB c u ow b->s0.mine b\/s0.g.w.heap.size<=b) :
  StI s0 n { fr:=(σ.put vA r).fr,hp:=σ.hp++[ow] } (a.put vA v) c (λi=>if i=σ.hp.length then u else ρ i):=by
 have O:∀j,j<σ.hp.length->(if j=σ.hp.length then u else ρ j)=ρ j:=λj C=>if_neg Zbx;have N:(σ.hp++[ow]).length=σ.hp.length+1:=by simp
 have key:∀i o,(σ.hp++[ow])[i]? = some o->∀b,OwB c (if i=σ.hp.length then u else ρ i) o b->(i<σ.hp.length/\σ.hp[i]? = some o/\OwB s (ρ i) o b)\/(i=σ.hp.length/\o=ow/\OwB c u ow b):=λi o K b S=>by
  rw[List.getElem?_append]at K;split at K
  .rename_i Q
   rw[if_neg Zbx]at S;exact .inl ⟨Q,K,OwB.le (h.hp i o K) L S⟩
  .rename_i V
   have:i=σ.hp.length:=by
    have:=BV K;simp at this;omega
   subst this;simp at K;subst K;rw[if_pos rfl]at S;exact .inr ⟨rfl,rfl,S⟩
 refine⟨h.le.trans L,L.ok h.ok,λt H M=>?_,?_,?_,λi o K=>?_,λi j o k R K C b S X=>?_,λi o b K S=>?_⟩
 .show AVr (σ.hp++[ow]).length _ c H _
  rw[N]
  cases vA with
  |none=>exact((h.fr t H M).chg L.chg).mono (Nat.le_succ _) O
  |some d=>
   replace M:BR ((d,r)::σ.fr) t=some H:=M;rw[Cx]at M;simp only[Act.put];by_cases Z:d=t
   .rw [if_pos Z]at M
    cases M;subst Z;have:d<a.tmps.size:=by rw[h.sz];exact W d rfl
    simp[this];exact Y
   .rw [if_neg Z]at M
    have:=((h.fr t H M).chg L.chg).mono (Nat.le_succ _) O;rw[Array.getD_eq_getD_getElem?]at this ⊢;rwa [Array.getElem?_setIfInBounds_ne Z]
 .unfold Act.put;split<;>simp[h.sz]
 .unfold Act.put;split<;>simp[h.df]
 .show OwR 0 (σ.hp++[ow]).length _ c i o
  rw[N];rw[List.getElem?_append]at K;split at K
  .rename_i Q
   exact((h.hp i o K).le L).mono (Nat.le_succ _) O Q
  .rename_i V
   have:i=σ.hp.length:=by
    have:=BV K;simp at this;omega
   subst this;simp at K;subst K;exact F
 .rcases key i o K b S with⟨A,B,I⟩ | ⟨A,B,I⟩<;>rcases key j k C b X with⟨m,y,e⟩ | ⟨m,y,e⟩
  .exact h.sep i j o k R B y b I e
  .exact E b e i o B I
  .exact E b I j k y e
  .omega
 .rcases key i o K b S with⟨A,B,I⟩ | ⟨A,B,I⟩
  .exact h.own i o b B I
  .exact G b I
theorem StI.new(h:StI s0 n σ a s ρ){c:GS}(L:GS.Le s c){dst:Option Tmp}(W:∀d,dst=some d->d<n){v u:Value}{r:AV}{ow:Ow}(Y:AVr (σ.hp.length+1) (λi=>if i=σ.hp.length then u else ρ i) c r v)
  (A:OwR 0 (σ.hp.length+1) (λi=>if i=σ.hp.length then u else ρ i) c σ.hp.length ow) (E:∀b,OwB c u ow b->s.w.heap.size<=b) :
  StI s0 n { fr:=(σ.put dst r).fr,hp:=σ.hp++[ow] } (a.put dst v) c (λi=>if i=σ.hp.length then u else ρ i):=by
 refine h.newG L W Y A (λb C i o K B=>?_) λb C=>.inr (Nat.le_trans h.le.size (E b C));have:=(h.hp i o K).blk_lt0 B;exact absurd (E b C) Zbx
end
section
variable {P:Program} {s0:An} {n:Nat} {ops:Array Oper} {Q:Exit->AS->Prop} {rest:List Oper} {o:Oper} {σ:AS}
theorem Iv(t:TypeId)(v:Value)(w:World):(newVar t v).run P w=.ok ⟨w.heap.size,0,none⟩ (w.alloc (.cells v.cells t)):=rfl
def AS.new(σ:AS)(dst:Option Tmp)(r:AV)(ow:Ow):AS:={ fr:=(σ.put dst r).fr,hp:=σ.hp++[ow] }
def Vg(l:List Value):List AV:=l.map λu=>.d (ex u)
def Hp(l:List Value):Bool:=l.all (·.oneCell')
theorem AWl.alloc{T:TypeId}{d:TypeDesc}{m b:Nat}(F:o.op=.alloc T)(G:o.guard=none)(M:Tab P T d m b z)(g:T≠335)(A:Hp z.cells.toList=true)(W:Td o.dst n=true)(h:AWl P s0 n ops Q rest (σ.new o.dst (.ptr σ.hp.length 0) (.var T (Vg z.cells.toList)))):AWl P s0 n ops Q (o::rest) σ:=by
 refine AWl.step G λs S a w K p=>?_
 have q:(execOp a.eval o).run P s.w=.ok (.value (.pointer (some ⟨s.w.heap.size,0,none⟩))) (s.w.alloc (.cells z.cells T)):=by
  simp[execOp,F,Instr.alloc,M.run_zero,Iv]
 unfold Oper.wp;rw[q];refine p _ _ _ h ⟨s.mk' z.cells T 0,_,rfl,w.new (s.le_mk' z.cells T 0 g) (IG W) (u:=.pointer (some ⟨s.w.heap.size,0,none⟩)) ⟨by omega,s.w.heap.size,by simp,rfl⟩ ?_ λb E=>by cases E;exact Nat.le_refl _⟩;refine⟨s.w.heap.size,z.cells,by simp,Nat.zero_le _,heap_alloc_new s.w _,by simp[Vg],g,λk B=>absurd (w.ok.lt _ _ B) (Nat.lt_irrefl _),λk H B=>?_⟩;unfold Vg at B;rw[List.getElem?_map]at B
 cases C:z.cells.toList[k]? with
 |none=>rw[C]at B;cases B
 |some u=>
  rw[C]at B;cases B;exact⟨u,by simpa using C,List.all_eq_true.1 A u (List.mem_of_getElem? C),rfl⟩
theorem AWl.box(L:o.op=.box t x)(M:o.guard=none)(E:σ.arg x=.d (AL c))(g:t≠335)(W:Td o.dst n=true)(h:AWl P s0 n ops Q rest (σ.new o.dst (.ptr σ.hp.length 0) (.var t (c.map .d)))):AWl P s0 n ops Q (o::rest) σ:=by
 refine AWl.step M λs S a w K p=>?_;have A:=w.arg x;rw[E]at A;obtain⟨Z,d,B,I⟩:=A
 have q:(execOp a.eval o).run P s.w=.ok (.value (.pointer (some ⟨s.w.heap.size,0,none⟩))) (s.w.alloc (.cells Z t)):=by
  simp only[execOp,L,d,Instr.box,Sem.run_bind,Iv,Result.andThen_ok,Sem.run_pure];rfl
 unfold Oper.wp;rw[q];have N:=s.le_mk' Z t 0 g;refine p _ _ _ h ⟨s.mk' Z t 0,_,rfl,w.new N (IG W) (u:=.pointer (some ⟨s.w.heap.size,0,none⟩)) ⟨by omega,s.w.heap.size,by simp,rfl⟩ ?_ λb F=>by cases F;exact Nat.le_refl _⟩;refine⟨s.w.heap.size,Z,by simp,Nat.zero_le _,heap_alloc_new s.w _,by simp[B],g,λk C=>absurd (w.ok.lt _ _ C) (Nat.lt_irrefl _),λk H C=>?_⟩;rw[List.getElem?_map]at C
 cases G:c[k]? with
 |none=>rw[G]at C;cases C
 |some x=>
  rw[G]at C;cases C;have J:k<c.length:=(List.getElem?_eq_some_iff.1 G).1;obtain⟨u,V,m,y⟩:=I k J;refine⟨u,V,m,?_⟩;have:Df c k=x:=by simp[Df,G]
  rw[this]at y;exact x.st y N.chg
end
def Ow.mapA(f:AV->AV):Ow->Ow
 |.var T cells=>.var T (cells.map f)
 |.pin l=>.pin (l.map λp=>(p.1,f p.2))
 |o=>o
theorem A1M{f:AV->AV}{b:Nat}:OwB s z (vr.mapA f) b↔OwB s z vr b:=by cases vr<;>exact Iff.rfl
theorem TU(f:AV->AV):∀(l:List (Nat×AV)) (t:Nat),BR (l.map λp=>(p.1,f p.2)) t=(BR l t).map f
 |[],t=>rfl
 |p::r,t=>by
  rw[List.map_cons];obtain⟨a,H⟩:=p;rw[Cx,Cx,TU f r t];split<;>rfl
section
variable {s0:An} {n:Nat} {σ:AS} {a:Act} {s:GS} {ρ:Nat->Value}
theorem StI.upd(h:StI s0 n σ a s ρ){s':GS}(xb:GS.LeX s0.mine s0.g s')(Y:s'.Ok)(I:GS.Chg s s'){id:Nat}{o o':Ow}{ρ':Nat->Value}{f:AV->AV}(L:σ.hp[id]? = some o)
  (xf:∀b,b<s.w.heap.size->¬OwB s (ρ id) o b->s'.w.heap[b]? = s.w.heap[b]? /\ ∀k,s'.S b k↔s.S b k) (xc:∀j,j≠id->ρ' j=ρ j)
  (xh:OwR 0 σ.hp.length ρ' s' id o') (xm:∀b,OwB s' (ρ' id) o' b->OwB s (ρ id) o b\/s.w.heap.size<=b) (R:∀H v,AVr σ.hp.length ρ s H v->AVr σ.hp.length ρ' s' (f H) v) :
  StI s0 n { fr:=σ.fr.map λp=>(p.1,f p.2),hp:=(σ.hp.map (Ow.mapA f)).set id o' } a s' ρ':=by
 have g:((σ.hp.map (Ow.mapA f)).set id o').length=σ.hp.length:=by simp
 have xe:∀i x,((σ.hp.map (Ow.mapA f)).set id o')[i]? = some x->(i=id/\x=o')\/(i≠id/\∃y,σ.hp[i]? = some y/\x=y.mapA f):=λi x E=>by
  rw[List.getElem?_set]at E;split at E
  .rename_i e
   split at E
   .cases E;exact .inl ⟨e.symm,rfl⟩
   .cases E
  .rename_i e
   rw[List.getElem?_map]at E
   cases Q:σ.hp[i]? with
   |none=>rw[Q]at E;cases E
   |some y=>rw[Q]at E;cases E;exact .inr ⟨λe'=>e e'.symm,y,rfl,rfl⟩
 have xo:∀i y,i≠id->σ.hp[i]? = some y->∀b,OwB s (ρ i) y b->b<s.w.heap.size/\¬OwB s (ρ id) o b:=λi y J Q b F=>⟨(h.hp i y Q).blk_lt0 F,h.sep i id y o J Q L b F⟩;have w:∀i y,i≠id->σ.hp[i]? = some y->∀b,OwB s (ρ i) y b->s'.w.heap[b]? = s.w.heap[b]? /\ ∀k,s'.S b k↔s.S b k:=λi y J Q b F=>xf b (xo i y J Q b F).1 (xo i y J Q b F).2;have xk:∀i y,i≠id->σ.hp[i]? = some y->∀b,OwB s' (ρ' i) (y.mapA f) b->OwB s (ρ i) y b:=λi y J Q b F=>OwB.keep (h.hp i y Q) I (w i y J Q) (by rw[<-xc i J];exact A1M.1 F);refine⟨xb,Y,λt H N=>?_,h.sz,h.df,λi x E=>?_,λi j x y xd E Q b xj xi=>?_,λi x b E F=>?_⟩
 .show AVr ((σ.hp.map (Ow.mapA f)).set id o').length ρ' s' H _
  rw[g];rw[TU]at N
  cases M:BR σ.fr t with
  |none=>rw[M]at N;cases N
  |some xn=>
   rw[M]at N;cases N;exact R _ _ (h.fr t xn M)
 .show OwR 0 ((σ.hp.map (Ow.mapA f)).set id o').length ρ' s' i x
  rw[g];rcases xe i x E with⟨rfl,rfl⟩ | ⟨J,y,Q,rfl⟩
  .exact xh
  .have xl:=h.hp i y Q
   cases y with
   |dead=>trivial
   |var T cells=>
    obtain⟨b,Z,A,B,K,V,m,X,c⟩:=xl;obtain⟨U,e4⟩:=w i _ J Q b (show Dc (ρ i)=some b by rw[A];rfl);refine⟨b,Z,(xc i J).trans A,B,U.trans K,by simpa using V,m,λk C=>X k ((e4 k).1 C),λk H C=>?_⟩;rw[List.getElem?_map]at C
    cases xg:cells[k]? with
    |none=>rw[xg]at C;cases C
    |some xn=>
     rw[xg]at C;cases C;obtain⟨u,r,h9,xa⟩:=c k xn xg;exact⟨u,r,h9,R _ _ xa⟩
   |row T S P=>
    have:=xl.keep I (w i _ J Q);unfold OwR at this;show OwR 0 σ.hp.length ρ' s' i (.row T S P);unfold OwR;rw[xc i J];exact this
   |obj O=>
    have:=xl.keep I (w i _ J Q);show O.rel s' (ρ' i);rw[xc i J];exact this
   |pin l=>
    intro p G;obtain⟨q,z,rfl⟩:=List.mem_map.1 G;exact R _ _ (xl q z)
 .rcases xe i x E with⟨rfl,rfl⟩ | ⟨J,x0,hx0,rfl⟩<;>rcases xe j y Q with⟨rfl,rfl⟩ | ⟨hne',y0,hy0,rfl⟩
  .exact xd rfl
  .obtain ⟨d,W⟩:=xo j _ hne' hy0 b (xk j _ hne' hy0 b xi)
   rcases xm b xj with A | A
   .exact W A
   .omega
  .obtain ⟨d,W⟩:=xo i _ J hx0 b (xk i _ J hx0 b xj)
   rcases xm b xi with A | A
   .exact W A
   .omega
  .exact h.sep i j x0 y0 xd hx0 hy0 b (xk i _ J hx0 b xj) (xk j _ hne' hy0 b xi)
 .rcases xe i x E with⟨rfl,rfl⟩ | ⟨J,x0,hx0,rfl⟩
  .rcases xm b F with A | A
   .exact h.own _ o b L A
   .exact .inr (Nat.le_trans h.le.size A)
  .exact h.own i x0 b hx0 (xk i _ J hx0 b F)
end
theorem OM(l:List (Nat×AV)):(l.map λp=>(p.1,(λx=>x) p.2))=l:=by simp
theorem JN:∀l:List Ow,l.map (Ow.mapA λx=>x)=l
 |[]=>rfl
 |o::l=>by rw[List.map_cons,JN l];cases o<;>simp[Ow.mapA]
def One(F:List Ow)(H:AV):Prop:=∀base S s v,HpOk base S s F->AVr F.length S s H v->v.oneCell'=true
theorem EV(h:z.oneCell'=true):One H (.d (ex z)):=λ_ _ _ v _ o=>by have:v=z:=o;rw[this];exact h
theorem Fq{T q:Nat}:One H (.d (slD T q vp)):=λ_ _ _ v _ ⟨A,c,o,_⟩=>by rw[o];rfl
theorem One.own{hp:List Ow}{i T sz:Nat}(h:hp[i]? = some (.row T sz vp)):One hp (.own i):=λbase S s v u ⟨_,o⟩=>by
 obtain⟨f,⟨_,A⟩,_⟩:=u i _ h;rcases A with⟨d,_⟩ | ⟨g,cap,cur,d,_⟩
 .rw [o,d];rfl
 .rw [o,d];rfl
theorem A1r{p:Addr}{b:Nat}(h:Ty (w.setCell p z) b t):Ty w b t:=by
 obtain⟨Z,G,h⟩:=h;by_cases E:b=p.block
 .simp only[World.setCell,Array.getElem?_modify,E,if_true]at h
  cases n:w.heap[p.block]? with
  |none=>rw[n]at h;cases h
  |some o=>
   rw[n]at h
   cases o with
   |cells c e f=>
    simp at h;exact⟨c,f,by rw[E,n];rw[h.2.1]⟩
   |_=>simp at h
 .rw [Below.heap_setCell _ _ _ _ E]at h
  exact⟨Z,G,h⟩
theorem KL{s s':GS}(h:s.Ok)(l:∀b k,s'.S b k->s.S b k)(w:s.w.heap.size<=s'.w.heap.size)(u:∀b k,s.S b k->s'.S b k)(M:∀b,Ty s'.w b 335->Ty s.w b 335):s'.Ok:=
 ⟨λb k E=>Nat.lt_of_lt_of_le (h.lt b k (l b k E)) w,λb k E=>u b k (h.safe b k (M b E))⟩
section
variable {P:Program} {s0:An} {n:Nat} {ops:Array Oper} {Q:Exit->AS->Prop} {rest:List Oper} {o:Oper} {σ:AS}
theorem Qd{d:TypeDesc}{b id off:Nat}{cells:List AV}(X:o.op=.store t x y)(Y:o.guard=none)(xk:o.dst=none)(E:σ.arg x=.ptr id off)(N:σ.arg y=g)(i:σ.hp[id]? = some (.var U cells))(M:Tab P t d 1 b z)(A:One σ.hp g)(xl:off<cells.length)(h:AWl P s0 n ops Q rest { fr:=σ.fr,hp:=σ.hp.set id (.var U (cells.set off g)) }):AWl P s0 n ops Q (o::rest) σ:=by
 refine AWl.step Y λs S a w K H=>?_;have xj:=w.arg x;have xm:=w.arg y;rw[E]at xj;rw[N]at xm;obtain⟨xa,O,xn,L⟩:=xj;obtain⟨g',Z,B,I,V,m,W,f,j⟩:=w.hp id _ i;rw[xn]at B;cases B;have xg:=A _ _ _ _ w.hp xm;have l:s.w.cell? ⟨O,off,none⟩=some (Z[off]'(Zbx)):=(CH V).trans (Array.getElem?_eq_getElem _);have xd:s.w.frozen? ⟨O,off,none⟩=false:=Blk.frozen V off;have xi:(a.eval y).cells=#[a.eval y]:=by cases R:a.eval y<;>first | rfl | (rw[R]at xg;cases xg)
 have J:(execOp a.eval o).run P s.w=.ok .skip (s.w.setCell ⟨O,off,none⟩ (a.eval y)):=by
  have r:(store ⟨O,off,none⟩ (a.eval y)).run P s.w=.ok () (s.w.setCell ⟨O,off,none⟩ (a.eval y)):=by
   cases R:a.eval y<;>first | (rw[R]at xg;cases xg;done) | simp[store,Sem.run,l,xd]
  simp[execOp,X,L,Instr.storeAt,Instr.sureAddr,storeVar,xi,M.run_size,storeCells,Addr.add_lit,r]
 unfold Oper.wp;rw[J];have xe:∀b,b≠O->(s.w.setCell ⟨O,off,none⟩ (a.eval y)).heap[b]? = s.w.heap[b]?:=λb F=>Below.heap_setCell _ _ _ _ F;have xf:(s.w.setCell ⟨O,off,none⟩ (a.eval y)).heap[O]? = some (.cells (Z.setIfInBounds off (a.eval y)) U (0,0)):=Blk.set V off _;have T:GS.Ok { s with w:=s.w.setCell ⟨O,off,none⟩ (a.eval y) }:=KL w.ok (λ_ _ h=>h) (by show _<=(s.w.setCell _ _).heap.size;simp[World.setCell]) (λ_ _ h=>h) λb F=>A1r F
 have G : GS.Chg s { s with w := s.w.setCell ⟨O, off, none⟩ (a.eval y) } := ⟨by show _ ≤ (s.w.setCell _ _).heap.size; simp [World.setCell], fun _ _ h => h, fun b c t p F => by
  by_cases e:b=O
  .subst e
   rw[V]at F;cases F;exact⟨_,_,xf,λk C=>absurd C (f k)⟩
  .exact ⟨c,p,(xe b e).trans F,λ_ _=>rfl⟩⟩
 have xh := w.upd (s' := { s with w := s.w.setCell ⟨O, off, none⟩ (a.eval y) }) (ρ' := S) (f := fun x => x) (o' := .var U (cells.set off g)) (w.le.turn (w.own id _ O i (show Dc (S id) = some O by rw [xn]; rfl)) rfl rfl rfl (fun b _ F => ⟨xe b F, fun _ h => h⟩) G (fun _ _ => rfl) fun _ => T) T G i (fun b _ F => ⟨xe b fun e => F (show Dc (S id) = some b by rw [xn, e]; rfl), fun _ => Iff.rfl⟩) (fun _ _ => rfl)
  ⟨O, _, xn, I, xf, by simpa using m, W, f, fun k xo C => by
   rw[List.getElem?_set]at C;split at C
   .rename_i e
    subst e;obtain rfl:xo=g:=by first | exact(Option.some.inj C).symm | (rw[if_pos xl]at C;exact(Option.some.inj C).symm)
    exact⟨_,by simp[m,xl],xg,xm.chg G⟩
   .rename_i e
    obtain⟨u,q,xb,xc⟩:=j k xo C;exact⟨u,by rw[Array.getElem?_setIfInBounds_ne e];exact q,xb,xc.chg G⟩⟩ (λb F=>.inl F) λg v h=>h.chg G
 rw[OM,JN]at xh;exact H _ _ _ h (by rw[xk];exact⟨_,S,rfl,xh⟩)
def It(cells:List AV)(off:Nat)(R:List AV):List AV:=cells.take off++(R++cells.drop (off+R.length))
theorem Vp{cells:List AV}{off:Nat}(h:off+uo.length<=cells.length)(k:Nat):(It cells off uo)[k]? = if off<=k/\k<off+uo.length then uo[k-off]? else cells[k]?:=by
 unfold It;rw[List.getElem?_append];have u:(cells.take off).length=off:=ZgC
 rw[u];split
 .rename_i A
  rw[if_neg Zbx,List.getElem?_take,if_pos A]
 .rename_i s
  rw[List.getElem?_append];split
  .rename_i A
   rw[if_pos Zbx]
  .rename_i j
   rw[if_neg Zbx,List.getElem?_drop];exact ZfJ
theorem Qc{d:TypeDesc}{b id off m:Nat}{cells:List AV}(j:o.op=.store t x y)(p:o.guard=none)(xr:o.dst=none)(E:σ.arg x=.ptr id off)(N:σ.arg y=.d (AL c))(r:σ.hp[id]? = some (.var U cells))(M:Tab P t d m b z)(Y:c.length=m)(xt:off+m<=cells.length)(h:AWl P s0 n ops Q rest { fr:=σ.fr,hp:=σ.hp.set id (.var U (It cells off (c.map .d))) }):AWl P s0 n ops Q (o::rest) σ:=by
 refine AWl.step p λs S a w K hK=>?_;have xq:=w.arg x;have xu:=w.arg y;rw[E]at xq;rw[N]at xu;obtain⟨xe,g,xw,O⟩:=xq;obtain⟨g',Z,A,I,V,R,i,q,h8⟩:=w.hp id _ r;rw[xw]at A;cases A;obtain⟨l,f,xn,xs⟩:=xu
 have xz:∀v∈l.toList,v.oneCell'=true:=λv X=>by
  obtain⟨k,C,rfl⟩:=List.getElem_of_mem X;simp at C;obtain⟨u,h9,xc,_⟩:=xs k Zbx;rw[Array.getElem?_eq_getElem C]at h9;cases h9;simpa using xc
 have xm:l.toList.length=m:=by simp[xn,Y]
 have xl:=run_storeCells_at P g off U l.toList 0 Z s.w V Zbx xz;simp only[Nat.add_zero]at xl;obtain⟨W,J⟩:∃W,W=s.w.setRow g (Z.toList.take off++l.toList++Z.toList.drop (off+l.toList.length)).toArray:=⟨_,rfl⟩;rw[<-J]at xl
 have xd:(execOp a.eval o).run P s.w=.ok .skip W:=by
  simp[execOp,j,O,f,Instr.storeAt,Instr.sureAddr,storeVar,Value.cells,xn,Y,M.run_size,xl]
 unfold Oper.wp;rw[xd];have xi:∀b,b≠g->W.heap[b]? = s.w.heap[b]?:=λb F=>by rw[J];exact setRow_other s.w g b _ (λe=>F e)
 have xk:W.heap[g]? = some (.cells (Z.toList.take off++l.toList++Z.toList.drop (off+l.toList.length)).toArray U (0,0)):=by rw[J];exact setRow_heap s.w g Z _ U _ V
 have xa:W.heap.size=s.w.heap.size:=by rw[J];simp[World.setRow]
 have T : GS.Ok { s with w := W } := KL w.ok (fun _ _ h => h) (by show _ ≤ W.heap.size; omega) (fun _ _ h => h) fun b ⟨B, fz, F⟩ => by
  by_cases e:b=g
  .subst e
   have F:W.heap[b]? = _:=F;rw[xk]at F;cases F;exact absurd rfl i
  .exact ⟨B,fz,(xi b e).symm.trans F⟩
 have G : GS.Chg s { s with w := W } := ⟨by show _ ≤ W.heap.size; omega, fun _ _ h => h, fun b B t fz F => by
  by_cases e:b=g
  .subst e
   rw[V]at F;cases F;exact⟨_,_,xk,λk C=>absurd C (q k)⟩
  .exact ⟨B,fz,(xi b e).trans F,λ_ _=>rfl⟩⟩
 have xx:off+(c.map AV.d).length<=cells.length:=ZgC
 have xo := w.upd (s' := { s with w := W }) (ρ' := S) (f := fun x => x) (o' := .var U (It cells off (c.map .d))) (w.le.turn (w.own id _ g r (show Dc (S id) = some g by rw [xw]; rfl)) (by rw [J]; rfl) (by rw [J]; rfl) (by rw [J]; rfl) (fun b _ F => ⟨xi b F, fun _ h => h⟩) G (fun _ _ => rfl) fun _ => T) T G r (fun b _ F => ⟨xi b fun e => F (show Dc (S id) = some b by rw [xw, e]; rfl), fun _ => Iff.rfl⟩) (fun _ _ => rfl)
  ⟨g, _, xw, I, xk, by simp [It]; omega, i, q, fun k xy C => by
   rw[Vp xx]at C
   have xh:(Z.toList.take off++l.toList++Z.toList.drop (off+l.toList.length)).toArray[k]? = if off<=k/\k<off+m then l[k-off]? else Z[k]?:=by
    rw[List.getElem?_toArray,List.append_assoc,List.getElem?_append];have xb:(Z.toList.take off).length=off:=ZgC
    rw[xb];split
    .rename_i L
     rw[if_neg Zbx,List.getElem?_take,if_pos L];simp
    .rename_i xj
     rw[List.getElem?_append];split
     .rename_i L
      rw[if_pos Zbx];simp
     .rename_i xA
      rw[if_neg Zbx,List.getElem?_drop];simp;exact ZfJ
   rw[xh];rw[List.length_map,Y]at C;split at C
   .rename_i xp
    rw[if_pos xp];rw[List.getElem?_map]at C
    cases xv:c[k-off]? with
    |none=>rw[xv]at C;cases C
    |some x=>
     rw[xv]at C;cases C;obtain⟨u,h9,xc,xf⟩:=xs (k-off) Zbx;refine⟨u,h9,xc,?_⟩;have:Df c (k-off)=x:=by simp[Df,xv]
     rw[this]at xf;exact x.st xf G
   .rename_i xp
    rw[if_neg xp];obtain⟨u,xc,xf,xg⟩:=h8 k xy C;exact⟨u,xc,xf,xg.chg G⟩⟩ (λb F=>.inl F) λH v h=>h.chg G
 rw[OM,JN]at xo;exact hK _ _ _ h (by rw[xr];exact⟨_,S,rfl,xo⟩)
end
theorem Rn{s0:An}(xa:GS.LeX s0.mine s0.g s)(a:s.Ok){t ty T q bytes:Nat}{d:TypeDesc}(M:P.underlying t=some (.slice T))(r:Tab P T d q bytes z)(xo:z.cells.size=q)(xm:T≠335)(N:0<q)
 {p:List Value} (xk:s.w.ownsRow 0 T q v k p) (xC:∀b,Dc v=some b->s0.mine b\/s0.g.w.heap.size<=b) (w:∀b,Dc v=some b->∀A,s.S b A↔A<k*q)
  (b o m c:Nat) (xb:List Value) (L:xb.length=m*q) (S:0<m) (xF:∀j u,xb[j]? = some u->s.w.cell? ⟨b,o+j,none⟩=some u) (B:∀u∈xb,u.oneCell'=true) (xh:(k+m)*bytes<=140737488355328) (xl:k+m<=4611686018427387904) :
  ∃(l:Value) (G:GS),(Builtin.append_ #[t,t] ty #[v,.slice (some ⟨b,o,none⟩) m c]).run P s.w=.ok l G.w/\GS.LeX s0.mine s0.g G/\G.Ok/\GS.Chg s G/\G.w.ownsRow 0 T q l (k+m) (p++xb)/\(∀b,Dc l=some b->∀A,G.S b A↔A<(k+m)*q) /\
   (∀b,b<s.w.heap.size->Dc v≠some b->G.w.heap[b]? = s.w.heap[b]? /\ ∀A,G.S b A↔s.S b A)/\(∀b,Dc l=some b->Dc v=some b\/s.w.heap.size<=b):=by
 obtain⟨i,K,f,xq,xr⟩:=r.info;subst xq;subst xr;have xx:∀j u,xb[j]? = some u->s.w.cell? ((⟨b,o,none⟩:Addr).add j)=some u:=λj u O=>by rw[Addr.add_lit];exact xF j u O
 have x:(p++xb).length=(k+m)*i.size:=by rw[List.length_append,xk.1,L,Nat.add_mul]
 have fresh:∀(cap:Nat) (arr:Array Value),k+m<=cap->cap<=maxLen->arr.size=cap*i.size->arr.toList.take ((k+m)*i.size)=p++xb->∃G:GS,G.w=s.w.drew.alloc (.cells arr T)/\GS.LeX s0.mine s0.g G/\G.Ok/\GS.Chg s G/\G.w.ownsRow 0 T i.size (.slice (some ⟨s.w.heap.size,0,none⟩) (k+m) cap) (k+m) (p++xb) /\
   (∀A,G.S s.w.heap.size A↔A<(k+m)*i.size)/\(∀b,b<s.w.heap.size->G.w.heap[b]? = s.w.heap[b]? /\ ∀A,G.S b A↔s.S b A):=by
  intro cap arr xj xi xv xA;have X:Ext s.w (s.w.drew.alloc (.cells arr T)):=(Ext.refl _).drew.alloc _;have xf:(s.w.drew.alloc (.cells arr T)).heap[s.w.heap.size]? = some (.cells arr T (0,0)):=heap_alloc_new s.w.drew _;have H:(s.w.drew.alloc (.cells arr T)).heap.size=s.w.heap.size+1:=Array.size_push ..;have Q:∀A,¬s.S s.w.heap.size A:=λA C=>absurd (a.lt _ _ C) (Nat.lt_irrefl _);have xu:∀b A,b<s.w.heap.size->((s.S b A\/(b=s.w.heap.size/\A<(k+m)*i.size))↔s.S b A):=λb A F=>⟨λh=>h.elim id λh=>absurd F Zbx,.inl⟩
  have xc:GS.Ok ⟨λb A=>s.S b A\/(b=s.w.heap.size/\A<(k+m)*i.size),s.tag,s.w.drew.alloc (.cells arr T)⟩:=⟨λb A F=>by
    show b<(s.w.drew.alloc (.cells arr T)).heap.size;rcases F with F | ⟨F,_⟩
    .have:=a.lt _ _ F;omega
    .omega,λb A ⟨Z,fz,F⟩=>by
    have F:(s.w.drew.alloc (.cells arr T)).heap[b]? = _:=F;have xn:=Bj F;by_cases e:b=s.w.heap.size
    .subst e
     rw[xf]at F;cases F;exact absurd rfl xm
    .exact .inl (a.safe b A ⟨Z,fz,(X.block Zbx).symm.trans F⟩)⟩
  refine⟨⟨λb A=>s.S b A\/(b=s.w.heap.size/\A<(k+m)*i.size),s.tag,s.w.drew.alloc (.cells arr T)⟩,rfl,?_,xc,?_,?_,λA=>⟨λh=>h.elim (λh=>absurd h (Q A)) λh=>h.2,λh=>.inr ⟨rfl,h⟩⟩,λb F=>⟨X.block F,λA=>xu b A F⟩⟩
  .refine xa.trans ⟨X,λ_ _ h=>.inl h,λb A F h=>(xu b A F).1 h,λ_ _=>rfl,λ_=>xc⟩
  .exact ⟨X.size,λ_ _ h=>.inl h,λb Z T' fz F=>⟨Z,fz,(X.block (Bj F)).trans F,λ_ _=>rfl⟩⟩
  .exact ⟨x,.inr ⟨_,cap,arr,rfl,Nat.zero_le _,xf,xj,xi,xv,xA⟩⟩
 have xD:k+m<=maxLen:=by simp only[maxLen];omega
 have xz:∀xp,xp<k+m->∃G:GS,G.w=s.w.drew.alloc (.cells (p.toArray++xb.toArray++Builtin.zeroCells z.cells (grownCap s.w (k+m) xp T-(k+m))) T)/\GS.LeX s0.mine s0.g G/\G.Ok/\GS.Chg s G/\G.w.ownsRow 0 T i.size (.slice (some ⟨s.w.heap.size,0,none⟩) (k+m) (grownCap s.w (k+m) xp T)) (k+m) (p++xb) /\
   (∀A,G.S s.w.heap.size A↔A<(k+m)*i.size)/\(∀b,b<s.w.heap.size->G.w.heap[b]? = s.w.heap[b]? /\ ∀A,G.S b A↔s.S b A):=by
  intro xp n;have xe:=grownCap_ge s.w (k+m) xp T;have xt:grownCap s.w (k+m) xp T<=maxLen:=grownCap_le_maxLen s.w (k+m) xp T xD;refine fresh _ _ xe xt ?_ ?_
  .simp only[Array.size_append,List.size_toArray,size_zeroCells,xo,xk.1,L,<-Nat.add_mul]
   exact ZfJ
  .simp only[Array.toList_append,List.append_assoc]
   rw[<-List.append_assoc,<-x];exact List.take_left
 rcases xk.2 with⟨rfl,rfl⟩ | ⟨g,cap,xg,rfl,hbg,hg,hnc,xt,hcs,htake⟩
 .have E:p=[]:=List.eq_nil_of_length_eq_zero (by simpa using xk.1)
  subst E;have Y:=run_append_nil (P:=P) s.w t ty T i z M K f ⟨b,o,none⟩ m c xb L xx S Zbx (by have F:=xh;simp only[Nat.zero_add]at F;omega);obtain⟨G,I,V,U,e4,e5,e6,e7⟩:=xz 0 Zbx;simp only[Nat.zero_add,List.nil_append,Array.empty_append]at I e5 e6 ⊢;rw[<-I]at Y;exact⟨_,G,Y,V,U,e4,e5,λb F A=>by cases F;exact e6 A,λb F _=>e7 b F,λb F=>by cases F;exact .inr (Nat.le_refl _)⟩
 .by_cases xy:k+m<=cap
  .have xB:k*i.size+xb.length<=xg.size:=by rw [L, hcs, <-Nat.add_mul]; exact Nat.mul_le_mul_right _ xy
   have Y:=run_append_room (P:=P) s.w t ty T i M K g k cap xg hg ⟨b,o,none⟩ m c xb L xx B xy xB;obtain⟨W,y⟩:∃W,W=s.w.setRow g (xg.toList.take (k*i.size)++xb++xg.toList.drop (k*i.size+xb.length)).toArray:=⟨_,rfl⟩;rw[<-y]at Y;have xd:∀b,b≠g->W.heap[b]? = s.w.heap[b]?:=λb F=>by rw[y];exact setRow_other s.w g b _ (λe=>F e)
   have xf:W.heap[g]? = some (.cells (xg.toList.take (k*i.size)++xb++xg.toList.drop (k*i.size+xb.length)).toArray T (0,0)):=by rw[y];exact setRow_heap s.w g xg _ T _ hg
   have H:W.heap.size=s.w.heap.size:=by rw[y];simp[World.setRow]
   have xE:=Bj hg;have xH:∀A,s.S g A↔A<k*i.size:=w g rfl;have xu:∀b A,b≠g->((s.S b A\/(b=g/\A<(k+m)*i.size))↔s.S b A):=λb A F=>⟨λh=>h.elim id λh=>absurd h.1 F,.inl⟩
   have xc:GS.Ok ⟨λb A=>s.S b A\/(b=g/\A<(k+m)*i.size),s.tag,W⟩:=⟨λb A F=>by
     show b<W.heap.size;rcases F with F | ⟨F,_⟩
     .have:=a.lt _ _ F;omega
     .omega,λb A ⟨Z,fz,F⟩=>by
     have F:W.heap[b]? = _:=F;by_cases e:b=g
     .subst e
      rw[xf]at F;cases F;exact absurd rfl xm
     .exact .inl (a.safe b A ⟨Z,fz,(xd b e).symm.trans F⟩)⟩
   have xw:∀A,A<k*i.size->(xg.toList.take (k*i.size)++xb++xg.toList.drop (k*i.size+xb.length)).toArray[A]? = xg[A]?:=λA C=>by
    rw[List.getElem?_toArray,List.append_assoc,List.getElem?_append_left ZgC,List.getElem?_take,if_pos C];simp
   have xI : GS.Chg s ⟨fun b A => s.S b A ∨ (b = g ∧ A < (k + m) * i.size), s.tag, W⟩ := ⟨by show _ ≤ W.heap.size; omega, fun _ _ h => .inl h, fun b Z T' fz F => by
    by_cases e:b=g
    .subst e
     rw[hg]at F;cases F;exact⟨_,_,xf,λA C=>xw A ((xH A).1 C)⟩
    .exact ⟨Z,fz,(xd b e).trans F,λ_ _=>rfl⟩⟩
   refine⟨_,⟨λb A=>s.S b A\/(b=g/\A<(k+m)*i.size),s.tag,W⟩,Y,xa.turn (xC g rfl) (by show W.os=_;rw[y];rfl) (by show W.tape=_;rw[y];rfl) (by show W.output=_;rw[y];rfl) (λb _ F=>⟨xd b F,λA h=>(xu b A F).1 h⟩) xI (λ_ _=>rfl) λ_=>xc,xc,xI,?_,?_,λb F R=>?_,λb F=>.inl F⟩
   .refine ⟨x,.inr ⟨g,cap,_,rfl,hbg,xf,xy,xt,?_,?_⟩⟩
    .simp only[List.size_toArray,List.length_append,List.length_take,List.length_drop,Array.length_toList]
     omega
    .rw [htake,<-x]
     exact List.take_left
   .intro b F A
    cases F;constructor
    .rintro (h | h)
     .have:=(xH A).1 h
      have:k*i.size<=(k+m)*i.size:=Nat.mul_le_mul_right _ Zbx;omega
     .exact h.2
    .intro h
     exact .inr ⟨rfl,h⟩
   .have J:b≠g:=λe=>R (by rw [e]; rfl)
    exact⟨xd b J,λA=>xu b A J⟩
  .have xG:∀j u,p[j]? = some u->s.w.cell? ((⟨g,0,none⟩:Addr).add j)=some u:=xk.cells (g:=g) rfl
   have Y:=run_append_grow (P:=P) s.w t ty T i z M K f ⟨g,0,none⟩ k cap p xk.1 xG ⟨b,o,none⟩ m c xb L xx Zbx Zbx (growslice_fits Zbx xh);obtain⟨G,I,V,U,e4,e5,e6,e7⟩:=xz cap Zbx;rw[<-I]at Y;exact⟨_,G,Y,V,U,e4,e5,λb F A=>by cases F;exact e6 A,λb F _=>e7 b F,λb F=>by cases F;exact .inr (Nat.le_refl _)⟩
def down(id:Nat)(x:D):AV->AV
 |.own j=>bif Nat.beq j id then .d x else .own j
 |.fn f M=>bif M.contains id then .d Cw else .fn f M
 |av=>av
theorem MO(c w:List (List D))(k:Nat):(c++w).getD k []=if k<c.length then c.getD k []else w.getD (k-c.length) []:=by
 rw[List.getD_eq_getElem?_getD,List.getElem?_append];split<;>simp[List.getD_eq_getElem?_getD]
section
variable {P:Program} {s0:An} {n:Nat} {ops:Array Oper} {Q:Exit->AS->Prop} {rest:List Oper} {o:Oper} {σ:AS}
def AS.appd(σ:AS)(g:Option Tmp)(id T q:Nat)(u w:List (List D)):AS:=
 AS.put { fr:=σ.fr.map λp=>(p.1,down id (slD T q u) p.2),hp:=(σ.hp.map (Ow.mapA (down id (slD T q u)))).set id (.row T q (u++w)) } g (.own id)
theorem XG{T q:Nat}{b o:Nat}(h:∀k,k<vp.length->(vp.getD k []).length=q/\Lies s b (o+k*q) T (vp.getD k [])):∃G:List Value,G.length=vp.length*q/\(∀j u,G[j]? = some u->s.w.cell? ⟨b,o+j,none⟩=some u)/\(∀u∈G,u.oneCell'=true) /\
  ∀k j,k<vp.length->j<q->∃u,G[k*q+j]? = some u/\u.oneCell'=true/\(Df (vp.getD k []) j).rel s u:=by
 have key:∀i,∃u,i<vp.length*q->s.w.cell? ⟨b,o+i,none⟩=some u/\u.oneCell'=true/\(Df (vp.getD (i/q) []) (i%q)).rel s u:=λi=>by
  by_cases K:i<vp.length*q
  .have w:0<q:=Nat.pos_of_ne_zero λe=>by rw [e] at K;simp at K
   have C:i/q<vp.length:=(Nat.div_lt_iff_lt_mul w).2 K;have F:i%q<q:=Nat.mod_lt _ w;obtain⟨A,B⟩:=h (i/q) C;obtain⟨u,I,V,m⟩:=B.cell (k:=i%q) Zbx;refine⟨u,λ_=>⟨?_,V,m⟩⟩;rw[<-I];have:=Nat.div_add_mod i q;rw[Nat.mul_comm]at this;rw[Nat.add_assoc,this]
  .exact ⟨undef,λh=>absurd h K⟩
 obtain⟨f,p⟩:∃f:Nat->Value,∀i,i<vp.length*q->s.w.cell? ⟨b,o+i,none⟩=some (f i)/\(f i).oneCell'=true/\(Df (vp.getD (i/q) []) (i%q)).rel s (f i):=⟨λi=>(key i).choose,λi K=>(key i).choose_spec K⟩;refine⟨(List.range (vp.length*q)).map f,by simp,λj u F=>?_,λu M=>?_,λk j C F=>?_⟩
 .rw [List.getElem?_map]at F
  by_cases L:j<vp.length*q
  .rw [List.getElem?_range L]at F
   cases F;exact(p j L).1
  .rw [List.getElem?_eq_none (by simp; omega)] at F
   cases F
 .obtain ⟨i,K,rfl⟩:=List.mem_map.1 M
  exact(p i (List.mem_range.1 K)).2.1
 .have E:k*q+j<vp.length*q:=by
   have:(k+1)*q<=vp.length*q:=Nat.mul_le_mul_right q C;exact ZfN
  refine⟨f (k*q+j),by rw[List.getElem?_map,List.getElem?_range E];rfl,(p _ E).2.1,?_⟩;have:=(p _ E).2.2
  have d:(k*q+j)/q=k:=by
   rw[Nat.mul_comm,Nat.mul_add_div Zbx,Nat.div_eq_of_lt F];omega
  have v:(k*q+j)%q=j:=by
   rw[Nat.mul_comm,Nat.mul_add_mod,Nat.mod_eq_of_lt F]
  rwa [d,v]at this
theorem Qe{t T T2 sz bytes id m b:Nat}{d:TypeDesc}(xb:o.op=.call { callee:=.builtin .append,args:=#[x,y],argTypes:=#[t,t] })(hg:o.guard=none)(G:σ.arg x=.own id)(V:II σ.hp (σ.arg y)=some (slD T2 sz up))(hh:σ.hp[id]? = some (.row T sz vp))(S:Tab P t (.slice T) m b v)(hT:Tab P T d sz bytes z)(xo:z.cells.size=sz)(l:Td o.dst n=true)(xk:(vp.length+up.length)*bytes<=140737488355328)(xm:vp.length+up.length<=4611686018427387904)(h:AWl P s0 n ops Q rest (σ.appd o.dst id T sz vp up)):AWl P s0 n ops Q (o::rest) σ:=by
 refine AWl.step hg λs Y a xa K hK=>?_;have xn:=xa.arg x;rw[G]at xn;obtain⟨xf,w⟩:=xn;obtain⟨xs,E,M,Z,h5,h6⟩:=xa.hp id _ hh;have xr:(slD T sz vp).rel s (Y id):=Ev (av:=.own id) xa.hp ⟨xf,rfl⟩ (by simp[II,hh]);obtain⟨A,c,e2,h7,h8,h9⟩:=Ev xa.hp (xa.arg y) V
 have xx:∀(v':Value) (r:GS) (xu:List Value),(execOp a.eval o).run P s.w=.ok (.value v') r.w->GS.LeX s0.mine s0.g r->r.Ok->GS.Chg s r->r.w.ownsRow 0 T sz v' (vp.length+up.length) xu->(∀b,Dc v'=some b->∀k,r.S b k↔k<(vp.length+up.length)*sz) ->
   (∀b,b<s.w.heap.size->Dc (Y id)≠some b->r.w.heap[b]? = s.w.heap[b]? /\ ∀k,r.S b k↔s.S b k)->(∀b,Dc v'=some b->Dc (Y id)=some b\/s.w.heap.size<=b) ->
   (∀k,k<(vp++up).length->((vp++up).getD k []).length=sz/\∀j,j<sz->∃u,xu[k*sz+j]? = some u/\u.oneCell'=true/\(Df ((vp++up).getD k []) j).rel r u)->o.wp P a s.w K (FG s0 n Q):=by
  intro v' r xu xe q1 q2 q3 q4 q5 q6 q7 q8;unfold Oper.wp;rw[xe];have R:(vp++up).length=vp.length+up.length:=List.length_append
  have xl:=xa.upd (s':=r) (o':=.row T sz (vp++up)) (ρ':=λi=>if i=id then v' else Y i) (f:=down id (slD T sz vp)) q1 q2 q3 hh q6 (λj U=>if_neg U)
   ⟨xu, by simp only [if_pos]; rw [R]; exact q4, M, Z, fun b I k => by simp only [if_pos] at I; rw [R]; exact q5 b I k, q8⟩ (fun b I => by replace I : Dc (if id = id then v' else Y id) = some b := I; rw [if_pos rfl] at I; exact q7 b I) fun av L xg => by
    cases av with
    |d x=>exact x.st xg q3
    |ptr i off=>
     obtain⟨p1,bb,p2,p3⟩:=xg;refine⟨p1,bb,?_,p3⟩;show(if i=id then v' else Y i)=_;by_cases e:i=id
     .exfalso
      subst e;rcases E.2 with⟨w1,_⟩ | ⟨g,cap,cur,w1,_⟩<;>rw[w1]at p2<;>cases p2
     .rw [if_neg e];exact p2
    |own j=>
     obtain⟨p1,p2⟩:=xg;show AVr σ.hp.length _ r (bif Nat.beq j id then .d (slD T sz vp)else .own j) L
     cases I:Nat.beq j id with
     |true=>
      have e:j=id:=Nat.eq_of_beq_eq_true I;subst e;rw[p2];exact(slD T sz vp).st xr q3
     |false=>
      have e:j≠id:=Nat.ne_of_beq_eq_false I;exact⟨p1,p2.trans (if_neg e).symm⟩
    |fn f xc=>
     obtain⟨p1,p2⟩:=xg;show AVr σ.hp.length _ r (bif xc.contains id then .d Cw else .fn f xc) L
     cases I:xc.contains id with
     |true=>trivial
     |false=>
      have J:id∉xc:=λh=>by rw[List.contains_iff_mem.2 h]at I;cases I
      exact⟨p1,by rw[p2,List.map_congr_left λi O=>(if_neg λe=>J (by rw[<-e];exact O):(if i=id then v' else Y i)=Y i)]⟩
  have xi:=xl.put (GS.Le.refl r) (IG l) (v:=v') (r:=.own id) ⟨by simpa using xf,by simp⟩;exact hK _ _ _ h ⟨r,_,rfl,xi⟩
 have xv:∀v' W,(Builtin.append_ #[t,t] o.type #[Y id,a.eval y]).run P s.w=.ok v' W->(execOp a.eval o).run P s.w=.ok (.value v') W:=λv' W q=>by
  simp only[execOp,xb,resolve,invoke,builtin,Sem.run_bind,Sem.run_pure,Result.andThen_ok,List.map_toArray,List.map_cons,List.map_nil,w,q]
 rcases Nat.eq_zero_or_pos up.length with H | H
 .obtain rfl:up=[]:=List.eq_nil_of_length_eq_zero H
  obtain⟨i,O,hz,xp,xq⟩:=hT.info
  have xy:∃B N C,Y id=.slice B N C/\N<=C:=by
   rcases E.2 with⟨w1,_⟩ | ⟨g,cap,cur,w1,_,_,w2,_⟩
   .exact ⟨none,0,0,w1,Nat.le_refl _⟩
   .exact ⟨_,_,_,w1,w2⟩
  obtain⟨B,N,C,w1,w2⟩:=xy
  have q:(Builtin.append_ #[t,t] o.type #[Y id,a.eval y]).run P s.w=.ok (Y id) s.w:=by
   rw[e2,w1]
   cases A with
   |none=>exact run_append_nothing s.w _ _ _ _ i S.und O _ _ _ w2 _ (Src.ofNil s.w S.und c)
   |some ad=>exact run_append_nothing s.w _ _ _ _ i S.und O _ _ _ w2 _ (Src.ofSlice s.w S.und _ _ _ [] ZbK ZbK ZbK)
  refine xx (Y id) s xs (xv _ _ q) xa.le xa.ok (GS.Chg.refl s) (by simpa using E) (λb I k=>by simpa using h5 b I k) (λb I _=>⟨rfl,λ_=>Iff.rfl⟩) (λb I=>.inl I) λk F=>?_;rw[List.append_nil]at F ⊢;exact⟨(h6 k F).1,(h6 k F).2⟩
 .obtain ⟨g,p,rfl,xd⟩:=h9 H
  obtain⟨xh,n1,n2,n3,n4⟩:=XG xd;obtain⟨v',r,q,q1,q2,q3,q4,q5,q6,q7⟩:=Rn (P:=P) (ty:=o.type) xa.le xa.ok S.und hT xo M Z E (λb I=>xa.own id _ b hh I) h5 g p up.length c xh n1 H n2 n3 xk xm;refine xx v' r (xs++xh) (xv _ _ (by rw[e2];exact q)) q1 q2 q3 q4 q5 q6 q7 λk F=>?_;rw[List.length_append]at F;rw[MO];have xt:xs.length=vp.length*sz:=E.1;split
  .rename_i X
   refine⟨(h6 k X).1,λj U=>?_⟩;obtain⟨u,r1,xw,r3⟩:=(h6 k X).2 j U;refine⟨u,?_,xw,(Df _ j).st r3 q3⟩;rw[List.getElem?_append_left]
   .exact r1
   .rw [xt]
    have:(k+1)*sz<=vp.length*sz:=Nat.mul_le_mul_right sz X;exact ZfN
  .rename_i xj
   refine⟨(xd (k-vp.length) Zbx).1,λj U=>?_⟩;obtain⟨u,r1,xw,r3⟩:=n4 (k-vp.length) j Zbx U;refine⟨u,?_,xw,(Df _ j).st r3 q3⟩;have e3:k*sz=vp.length*sz+(k-vp.length)*sz:=by rw[<-Nat.add_mul];exact ZfJ
   rw[List.getElem?_append_right Zbx,xt,<-r1];exact ZfJ
theorem Sd{ρ:Nat->Value}{a:Act}{T sz cap:Nat}{arr:Array Value}(hst:StI s0 n σ a s ρ)(u:T≠335)(g:0<sz)(G:cap<=maxLen)(N:arr.size=cap*sz){dst:Option Tmp}(W:Td dst n=true) :
  St s0 n (σ.new dst (.own σ.hp.length) (.row T sz [])) (a.put dst (.slice (some ⟨s.w.heap.size,0,none⟩) 0 cap)) (s.w.alloc (.cells arr T)):=
 ⟨s.mk' arr T 0, _, rfl, hst.new (s.le_mk' arr T 0 u) (IG W) (u := .slice (some ⟨s.w.heap.size, 0, none⟩) 0 cap) ⟨by omega, by simp⟩
  ⟨[], ⟨by simp, .inr ⟨s.w.heap.size, cap, arr, by simp, Nat.zero_le _, heap_alloc_new s.w _, Nat.zero_le _, G, N, by simp⟩⟩, u, g, fun b E k => by
   simp only[if_pos]at E;cases E;exact⟨λB=>absurd (hst.ok.lt _ _ B) (Nat.lt_irrefl _),λB=>by simp at B⟩,λk B=>by simp at B⟩ λb E=>by cases E;exact Nat.le_refl _⟩
theorem Xf{t T m b q bytes:Nat}{d:TypeDesc}(C:o.op=.buildSlice t 0 #[])(G:o.guard=none)(M:Tab P t (.slice T) m b v)(A:Tab P T d q bytes z)(E:T≠335)(g:0<q)(W:Td o.dst n=true)(h:AWl P s0 n ops Q rest (σ.new o.dst (.own σ.hp.length) (.row T q []))):AWl P s0 n ops Q (o::rest) σ:=by
 refine AWl.step G λs S a w K p=>?_
 have B:(execOp a.eval o).run P s.w=.ok (.value (.slice (some ⟨s.w.heap.size,0,none⟩) 0 0)) (s.w.alloc (.cells #[] T)):=by
  have u:∀arr,(newRow T arr).run P s.w=.ok ⟨s.w.heap.size,0,none⟩ (s.w.alloc (.cells arr T)):=λ_=>rfl;simp[execOp,C,Instr.buildSlice,run_underlying M.und,A.run_size,Instr.fill,u];exact ZgV
 unfold Oper.wp;rw[B];exact p _ _ _ h (Sd w E g (by simp[maxLen]) ZbK W)
theorem A02{t T m b q bytes:Nat}{d:TypeDesc}{c:Int}(L:o.op=.makeSlice t x y)(O:o.guard=none)(C:σ.arg x=.d (ex (.int .i64 0)))(N:σ.arg y=.d (ex (.int .i64 c)))(M:Tab P t (.slice T) m b v)(R:Tab P T d q bytes z)(l:0<=c)(G:c<=1000000000)(Z:bytes<=65536)(r:T≠335)(g:0<q)(W:Td o.dst n=true)(h:AWl P s0 n ops Q rest (σ.new o.dst (.own σ.hp.length) (.row T q []))):AWl P s0 n ops Q (o::rest) σ:=by
 refine AWl.step O λs S a w K p=>?_;have A:a.eval x=.int .i64 0:=St.exD C ⟨s,S,rfl,w⟩;have F:a.eval y=.int .i64 c:=St.exD N ⟨s,S,rfl,w⟩;obtain⟨i,u,I,J,U⟩:=R.info;have X:IntKind.i64.wrap 0=0:=rfl;have wc:IntKind.i64.wrap c=c:=IntWalk.i64_in _ Zbx;obtain⟨k,rfl⟩:=Int.eq_ofNat_of_zero_le l;have B:k<=1000000000:=by omega
 have xf:bytes*k<=65536*1000000000:=Nat.mul_le_mul Z B
 have xg:((bytes:Int)*(k:Int))<=281474976710656:=by
  have:((bytes*k:Nat):Int)<=((65536*1000000000:Nat):Int):=Int.ofNat_le.2 xf;rw[Int.natCast_mul]at this;omega
 have xb:k*bytes<=roomBytes:=by
  rw[Nat.mul_comm];have:roomBytes=140737488355328:=rfl;omega
 obtain⟨arr,H,V⟩:∃arr:Array Value,arr.size=k*q/\(execOp a.eval o).run P s.w=.ok (.value (.slice (some ⟨s.w.heap.size,0,none⟩) 0 k)) (s.w.alloc (.cells arr T)):=by
  have E:∀arr,(newRow T arr).run P s.w=.ok ⟨s.w.heap.size,0,none⟩ (s.w.alloc (.cells arr T)):=λ_=>rfl;have xd:¬(281474976710656<(bytes:Int)*(k:Int)):=by omega
  have xe:¬(roomBytes<k*bytes):=by omega
  have xc:¬((k:Int)<0):=by omega
  by_cases Y:k*q=0
  .refine ⟨(Array.range (k*q)).map (λj=>(#[]:Array Value)[j%0]!), by simp, ?_⟩
   simp[execOp,L,A,F,Instr.makeSlice,run_underlying M.und,asInt,asIntOf,typeInfo,u,U,X,wc,xd,askRoom,xe,R.run_size,Y,E,sizeOf,J,xc]
  .refine ⟨(Array.range (k*q)).map (λj=>z.cells[j%z.cells.size]!), by simp, ?_⟩
   have xa:k≠0:=λe=>Y (by rw[e,Nat.zero_mul]);have f:q≠0:=by omega
   simp[execOp,L,A,F,Instr.makeSlice,run_underlying M.und,asInt,asIntOf,typeInfo,u,U,X,wc,xd,askRoom,xe,sizeOf,J,xa,f,zeroValue,I,E,xc];exact λh=>absurd h Y
 unfold Oper.wp;rw[V];exact p _ _ _ h (Sd w r g ZdR H W)
end
def HN(s:GS)(Z:Array Value)(R:List D):Prop:=Z.size=R.length/\∀k,k<R.length->∃u,Z[k]? = some u/\u.oneCell'=true/\(Df R k).rel s u
def QI(R:List D)(off:Nat)(l:List D):List D:=R.take off++(l++R.drop (off+l.length))
theorem Iu{off:Nat}(h:off+vk.length<=c.length):(QI c off vk).length=c.length:=by simp[QI];omega
theorem A41{off:Nat}(h:off+vk.length<=c.length)(k:Nat):Df (QI c off vk) k=if off<=k/\k<off+vk.length then Df vk (k-off)else Df c k:=by
 unfold QI Df;rw[List.getD_eq_getElem?_getD,List.getElem?_append];have u:(c.take off).length=off:=ZgC
 rw[u];split
 .rename_i Q
  rw[if_neg Zbx,List.getElem?_take,if_pos Q];simp
 .rename_i s
  rw[List.getElem?_append];split
  .rename_i Q
   rw[if_pos Zbx];simp
  .rename_i j
   rw[if_neg Zbx,List.getElem?_drop];simp;congr 2;omega
theorem Rc(Z:Array Value):∀(l:List (Value×Nat)) (b:Nat) (off:Nat),(∀p∈l,b<=p.2)->(l.map (·.2)).Pairwise (· < ·)->∀k,(l.foldl (λZ (p:Value×Nat)=>Z.setIfInBounds (off+p.2) p.1) Z).size=Z.size /\
  ((∀p∈l,off+p.2≠k)->(l.foldl (λZ (p:Value×Nat)=>Z.setIfInBounds (off+p.2) p.1) Z)[k]? = Z[k]?)/\(∀p∈l,off+p.2=k->k<Z.size->(l.foldl (λZ (p:Value×Nat)=>Z.setIfInBounds (off+p.2) p.1) Z)[k]? = some p.1)
 |[],b,off,_,_,k=>⟨rfl,λ_=>rfl,λp F=>by cases F⟩
 |q::l,b,off,E,F,k=>by
  have O:=List.pairwise_cons.1 F;obtain⟨u,A,I⟩:=Rc (Z.setIfInBounds (off+q.2) q.1) l (q.2+1) off (λp C=>O.1 p.2 (List.mem_map_of_mem C)) O.2 k;refine⟨by rw[List.foldl_cons,u];simp,λB=>?_,λp K B Q=>?_⟩
  .rw [List.foldl_cons,A λp C=>B p (List.mem_cons_of_mem _ C),Array.getElem?_setIfInBounds_ne (B q List.mem_cons_self)]
  .rw [List.foldl_cons]
   rcases List.mem_cons.1 K with rfl | C
   .rw [A λG a=>by have:p.2<G.2:=O.1 G.2 (List.mem_map_of_mem (f:=λx:Value×Nat=>x.2) a); omega, B]
    simp[Q]
   .exact I p C B (by simpa using Q)
theorem A5R{Z G:Array Value}{off:Nat}(h:HN s Z c)(o:HN s G vk)(n:off+vk.length<=c.length):HN s (G.zipIdx.foldl (λZ (p:Value×Nat)=>Z.setIfInBounds (off+p.2) p.1) Z) (QI c off vk):=by
 rw[<-Array.foldl_toList];have E:G.zipIdx.toList=G.toList.zipIdx:=by simp
 rw[E]
 have b:(G.toList.zipIdx.map (·.2)).Pairwise (· < ·):=by
  show(List.map Prod.snd _).Pairwise _;rw[List.zipIdx_map_snd];exact List.pairwise_lt_range'
 have key:=Rc Z G.toList.zipIdx 0 off (λ_ _=>Nat.zero_le _) b;refine⟨by rw[(key 0).1,Iu n,h.1],λk C=>?_⟩;rw[Iu n]at C;rw[A41 n];obtain⟨A,B,I⟩:=key k;by_cases e:off<=k/\k<off+vk.length
 .rw [if_pos e]
  obtain⟨u,V,m,y⟩:=o.2 (k-off) Zbx;refine⟨u,?_,m,y⟩;refine I (u,k-off) ?_ (by show off+(k-off)=k;omega) (by rw[h.1];exact C);rw[List.mem_zipIdx_iff_getElem?];simpa using V
 .rw [if_neg e]
  obtain⟨u,V,m,y⟩:=h.2 k C;refine⟨u,?_,m,y⟩;rw[B λp F=>?_,V];rw[List.mem_zipIdx_iff_getElem?]at F;have:=(List.getElem?_eq_some_iff.1 F).1;simp[o.1]at this;omega
def GY(place:Nat->Option (Nat×Nat))(R:List D):List (Nat×List D)->Option (List D)
 |[]=>some R
 |(i,l)::r=>match place i with
  |some (off,size)=>bif Nat.beq l.length size&&Nat.ble (off+size) R.length then GY place (QI R off l) r else none
  |none=>none
def A5Y(s:GS)(v:Value)(l:List D):Prop:=HN s v.cells l
def WK(s:GS):List (Nat×Value)->List (Nat×List D)->Prop
 |[],[]=>True
 |(i,v)::l,(j,u)::r=>i=j/\A5Y s v u/\WK s l r
 |_,_=>False
theorem Lf{s:GS}{place:Nat->Option (Nat×Nat)}:∀{l:List (Nat×Value)} {r:List (Nat×List D)} {Z:Array Value} {R a:List D},WK s l r->HN s Z R->GY place R r=some a->∃K,Instr.fill place Z l=some K/\HN s K a
 |[],[],Z,R,a,_,G,p=>by cases p;exact⟨Z,rfl,G⟩
 |[],_::_,_,_,_,h,_,_=>h.elim
 |_::_,[],_,_,_,h,_,_=>h.elim
 |(i,v)::l,(j,B)::r,Z,R,a,⟨o,F,Y⟩,G,p=>by
  subst o;unfold GY at p
  cases L:place i with
  |none=>rw[L]at p;cases p
  |some q=>
   obtain⟨off,size⟩:=q;rw[L]at p;simp only at p
   cases E:(Nat.beq B.length size&&Nat.ble (off+size) R.length)with
   |false=>rw[E]at p;cases p
   |true=>
    rw[E]at p;simp only[Bool.and_eq_true,Nat.ble_eq]at E;have d:B.length=size:=Nat.eq_of_beq_eq_true E.1;have C:=E.2;have u:v.cells.size=size:=by rw[F.1,d]
    have A:=A5R G F (off:=off) Zbx;obtain⟨K,I,V⟩:=Lf Y A p;refine⟨K,?_,V⟩;unfold Instr.fill;rw[L];have W:=G.1;simp only;rw[if_neg (by simp only[Bool.or_eq_true,decide_eq_true_eq,ne_eq,not_or,Decidable.not_not];omega)];exact I
def PartsA(F:List Ow)(arg:Operand->AV):List (Nat×Operand)->List (Nat×List D)->Prop
 |[],[]=>True
 |(i,x)::l,(j,u)::r=>i=j/\(arg x=.d (AL u)\/∃y,II F (arg x)=some y/\One F (arg x)/\u=[y])/\PartsA F arg l r
 |_,_=>False
theorem PartsA.nil{hp:List Ow}:PartsA hp vv [] []:=trivial
theorem ZO{hp:List Ow}{i:Nat}{r:List (Nat×List D)}(h:vv x=.d (AL c))(Y:PartsA hp vv ue r):PartsA hp vv ((i,x)::ue) ((i,c)::r):=⟨rfl,.inl h,Y⟩
theorem PartsA.rel{base:Nat}{ρ:Nat->Value}{s:GS}{hp:List Ow}{arg:Operand->AV}{ev:Operand->Value}(G:HpOk base ρ s hp):∀{l:List (Nat×Operand)} {r:List (Nat×List D)},PartsA hp arg l r->(∀p∈l,AVr hp.length ρ s (arg p.2) (ev p.2))->WK s (l.map λp=>(p.1,ev p.2)) r
 |[],[],_,_=>trivial
 |[],_::_,h,_=>h.elim
 |_::_,[],h,_=>h.elim
 |(i,x)::l,(j,E)::r,⟨u,A,I⟩,h=>by
  refine⟨u,?_,PartsA.rel G I λp hp=>h p (List.mem_cons_of_mem _ hp)⟩;have C:=h (i,x) List.mem_cons_self;rcases A with A | ⟨y,A,h4,rfl⟩
  .have C:AVr hp.length ρ s (arg x) (ev x):=C
   rw[A]at C;obtain⟨Z,e,m,F⟩:=C;show HN s (ev x).cells E;rw[e];exact⟨m,F⟩
  .have m:=h4 _ _ _ _ G C
   have F:=Ev G C A;show HN s (ev x).cells [y];have:(ev x).cells=#[ev x]:=by cases o:ev x<;>first | rfl | (rw[show ev x=_ from o]at m;cases m)
   rw[this];refine⟨rfl,λk B=>?_⟩;obtain rfl:k=0:=by simp at B;omega
   exact⟨ev x,rfl,m,F⟩
def FieldsT(P:Program):List Field->List (Nat×Nat)->Prop
 |[],[]=>True
 |f::l,p::r=>(∃d b z,Tab P f.type d p.2 b z)/\p.1=f.offset/\FieldsT P l r
 |_,_=>False
theorem FieldsT.nil:FieldsT P [] []:=trivial
theorem FieldsT.cons{f:Field}{l:List Field}{d:TypeDesc}{n b:Nat}{r:List (Nat×Nat)}(h:Tab P f.type d n b z)(Y:FieldsT P l r):FieldsT P (f::l) ((f.offset,n)::r):=⟨⟨d,b,z,h⟩,rfl,Y⟩
theorem FieldsT.run {P : Program} {w : World} : ∀ {l : List Field} {r : List (Nat × Nat)}, FieldsT P l r → (l.mapM fun f => do pure (f.offset, ← sizeOf f.type) : Sem (List (Nat × Nat))).run P w = .ok r w
 |[],[],_=>by simp
 |[],_::_,h=>h.elim
 |_::_,[],h=>h.elim
 |f::l,(o,n)::r,⟨⟨d,b,z,u⟩,A,I⟩=>by
  have B:=FieldsT.run (w:=w) I;have A:o=f.offset:=A;subst A;simp only[List.mapM_cons,Sem.run_bind,u.run_size,Result.andThen_ok,Sem.run_pure,B]
def Sz(l:List Value):List D:=l.map ex
theorem Rl(h:Hp vz.toList=true):HN s vz (Sz vz.toList):=by
 refine⟨by simp[Sz],λk B=>?_⟩;simp[Sz]at B;refine⟨vz[k],Array.getElem?_eq_getElem B,List.all_eq_true.1 h _ ZbK,?_⟩;have:Df (Sz vz.toList) k=ex vz[k]:=by simp[Df,Sz,B]
 rw[this];rfl
section
variable {P:Program} {hp:List Ow} {o:Oper} {arg:Operand->AV}
theorem Quiet.build{F:Array Field}{n b:Nat}(C:o.op=.build t ue.toArray)(M:Tab P t (.struct F) n b z)(K:FieldsT P F.toList vC)(u:Hp z.cells.toList=true)(Y:PartsA hp arg ue uv)(B:GY (λi=>vC[i]?) (Sz z.cells.toList) uv=some c):Quiet P hp o arg (.d (AL c)):=by
 refine⟨λbase s S j T w a h=>?_⟩;have A:=PartsA.rel (ev:=j) a Y λp R=>h p.2 Zdr;obtain⟨G,I,V⟩:=Lf A (Rl u) B;refine BL (v:=.agg G) ?_ ⟨GS.Le.refl s,G,rfl,V⟩;have m:=FieldsT.run (w:=s.w) K
 have y : (F.mapM fun f => do pure (f.offset, ← sizeOf f.type) : Sem (Array (Nat × Nat))).run P s.w = .ok vC.toArray s.w := by
  rw[<-Array.toArray_toList (xs:=F),List.mapM_toArray,Sem.run_map,m];rfl
 have e:(λx:Nat=>vC.toArray[x]?)=λi=>vC[i]?:=by funext i;simp
 have E:(ue.toArray.map λp:Nat×Operand=>(p.1,j p.2)).toList=ue.map λp=>(p.1,j p.2):=by simp
 simp only[execOp,C,Instr.build,Sem.run_bind,M.run_zero,Result.andThen_ok,run_underlying M.und,y,e,E,I,Sem.run_pure]
theorem PL{len n b e x:Nat}{d:TypeDesc}(C:o.op=.build t ue.toArray)(M:Tab P t (.array len U) n b z)(a:Tab P U d e x v)(u:Hp z.cells.toList=true)(Y:PartsA hp arg ue uv)(B:GY (λi=>some (i*e,e)) (Sz z.cells.toList) uv=some c):Quiet P hp o arg (.d (AL c)):=by
 refine⟨λbase s S j T w E h=>?_⟩;have A:=PartsA.rel (ev:=j) E Y λp R=>h p.2 Zdr;obtain⟨F,I,V⟩:=Lf A (Rl u) B;refine BL (v:=.agg F) ?_ ⟨GS.Le.refl s,F,rfl,V⟩;have y:(ue.toArray.map λp:Nat×Operand=>(p.1,j p.2)).toList=ue.map λp=>(p.1,j p.2):=by simp
 simp only[execOp,C,Instr.build,Sem.run_bind,M.run_zero,Result.andThen_ok,run_underlying M.und,a.run_size,y,I,Sem.run_pure]
def Hc(q:Nat):Nat->List D->List (List D)
 |0,_=>[]
 |n+1,R=>R.take q::Hc q n (R.drop q)
theorem Ei(q:Nat):∀(n:Nat) (R:List D),(Hc q n R).length=n
 |0,_=>rfl
 |n+1,R=>by simp[Hc,Ei q n]
theorem Py(q:Nat):∀(n:Nat) (R:List D) (k:Nat),k<n->(Hc q n R).getD k []=(R.drop (k*q)).take q
 |0,_,k,h=>absurd h Zbx
 |n+1,R,0,_=>by simp[Hc]
 |n+1,R,k+1,h=>by
  have:=Py q n (R.drop q) k Zbx;rw[List.drop_drop]at this;simp only[Hc,List.getD_cons_succ,this,Nat.succ_mul];rw[Nat.add_comm q]
theorem Quiet.buildSlice{len n b e x:Nat}{d:TypeDesc}{parts:List (Nat×Operand)}{r:List (Nat×List D)}(Z:o.op=.buildSlice t len parts.toArray)(M:Tab P t (.slice U) n b z)(a:Tab P U d e x v)(g:0<len)(G:0<e)(W:v.cells.size=e)(xh:len*e<=16777216)(A:Hp v.cells.toList=true)(Y:PartsA hp arg parts r)(R:GY (λi=>some (i*e,e)) (List.replicate (len*e) Cw) r=some c):Quiet P hp o arg (.d (slD U e (Hc e len c))):=by
 refine⟨λbase s S N T xc w h=>?_⟩;have B:=PartsA.rel (ev:=N) w Y λp xk=>h p.2 (by rw[Z];simp only[Op.operands,List.mem_toArray];exact List.mem_map_of_mem xk)
 have xe:HN s ((Array.range (len*e)).map (λj=>v.cells[j%v.cells.size]!)) (List.replicate (len*e) Cw):=by
  refine⟨by simp,λk C=>?_⟩;simp at C;have Q:k%v.cells.size<v.cells.size:=Nat.mod_lt _ Zbx
  refine ⟨v.cells[k % v.cells.size]!, by simp [C], List.all_eq_true.1 A _ (by
   have U:v.cells[k%v.cells.size]! = v.cells[k%v.cells.size]'Q:=by simp[Q]
   rw[U];simp),?_⟩
  have:Df (List.replicate (len*e) Cw) k=Cw:=by simp[Df,C]
  rw[this];trivial
 obtain⟨xa,I,V⟩:=Lf B xe R
 have xl:len*e≠0:=by
  have:=Nat.mul_pos g G;omega
 have y:(parts.toArray.map λp:Nat×Operand=>(p.1,N p.2)).toList=parts.map λp=>(p.1,N p.2):=by simp
 have J:(execOp N o).run P s.w=.ok (.value (.slice (some ⟨s.w.heap.size,0,none⟩) len len)) (s.w.alloc (.cells xa U)):=by
  have xn:∀arr,(newRow U arr).run P s.w=.ok ⟨s.w.heap.size,0,none⟩ (s.w.alloc (.cells arr U)):=λ_=>rfl;have xm:¬(len*e>2^24):=by omega
  simp only[execOp,Z,Instr.buildSlice,Sem.run_bind,run_underlying M.und,Result.andThen_ok,a.run_size,if_neg xm,if_neg xl,a.run_zero,Sem.run_pure,y,I,xn]
 have X:Ext s.w (s.w.alloc (.cells xa U)):=(Ext.refl _).alloc _;have H:=Gk X
 have L:c.length=len*e:=by
  have q:∀(l:List (Nat×List D)) (xg xj:List D),GY (λi=>some (i*e,e)) xg l=some xj->xj.length=xg.length:=by
   intro l
   induction l with
   |nil=>intro xg xj h;cases h;rfl
   |cons p l f=>
    intro xg xj h;obtain⟨i,O⟩:=p;unfold GY at h;simp only at h
    cases E:(Nat.beq O.length e&&Nat.ble (i*e+e) xg.length)with
    |false=>rw[E]at h;cases h
    |true=>
     rw[E]at h;simp only[Bool.and_eq_true,Nat.ble_eq]at E;have F:O.length=e:=Nat.eq_of_beq_eq_true E.1;rw[f _ _ h,Iu Zbx]
  rw[q _ _ _ R];simp
 refine JK J (s.grown (s.w.alloc (.cells xa U))) rfl ⟨H,_,len,by rw[Ei],by rw[Ei];exact Nat.le_refl _,by have:=Nat.le_mul_of_pos_right len G;omega,λ_=>⟨s.w.heap.size,0,rfl,λk C=>?_⟩⟩;rw[Ei]at C
 have xf:k*e+e<=len*e:=by
  have:(k+1)*e<=len*e:=Nat.mul_le_mul_right e C;exact ZfN
 rw[Py _ _ _ _ C];refine⟨by simp;omega,xa,(0,0),heap_alloc_new s.w _,λj K=>?_⟩;have xi:j<e:=by simp at K;omega
 refine⟨.inr ⟨Nat.le_refl _,by show _<(s.w.alloc _).heap.size;simp⟩,?_⟩;rw[Lm xi,Ij,Nat.zero_add];obtain⟨u,m,xb,xd⟩:=V.2 (k*e+j) Zbx;exact⟨u,m,xb,(Df c _).st xd H.chg⟩
end
def AVle(F:List Ow)(m:Nat)(x y:AV):Prop:=∀base S s v,HpOk base S s F->AVr F.length S s x v->AVr m S s y v
theorem AVle.d{hp:List Ow}{m:Nat}{x y:D}(h:x=y):AVle hp m (.d x) (.d y):=λ_ _ _ _ _ o=>h▸o
theorem AVle.le{hp:List Ow}{m:Nat}{x y:D}(h:D.le x y):AVle hp m (.d x) (.d y):=λ_ _ s v _ o=>h s v o
theorem AVle.int{hp:List Ow}{m:Nat}{k:IntKind}{a b:Int}(h:a=b):AVle hp m (.d (ex (.int k a))) (.d (ex (.int k b))):=AVle.d (by rw[h])
theorem AVle.ptr{m i off:Nat}(h:Nat.blt i m=true):AVle H m (.ptr i off) (.ptr i off):=λ_ _ _ _ _ ⟨_,o⟩=>⟨by simpa[Nat.blt_eq]using h,o⟩
theorem AVle.own{hp:List Ow}{m i:Nat}(h:Nat.blt i m=true):AVle hp m (.own i) (.own i):=λ_ _ _ _ _ ⟨_,o⟩=>⟨by simpa[Nat.blt_eq]using h,o⟩
theorem BD{m:Nat}{f:FuncId}(h:l.all (Nat.blt · m)=true):AVle H m (.fn f l) (.fn f l):=λ_ _ _ _ _ ⟨_,o⟩=>⟨λi K=>by simpa[Nat.blt_eq]using List.all_eq_true.1 h i K,o⟩
theorem MJ{m i:Nat}(h:II H (.own i)=some r)(L:D.le r vu):AVle H m (.own i) (.d vu):=λ_ _ s v u o=>L s v (Ev u o h)
theorem Bd{T q:Nat}:D.le (ex (.slice none 0 0)) (slD T q []):=λs v h=>by
 have:v=.slice none 0 0:=h;subst this;exact slD.nil T q s
def FrLe(F:List Ow)(m:Nat)(S s:List (Nat×AV)):Prop:=∀p∈s,∃H,BR S p.1=some H/\AVle F m H p.2
theorem FrLe.nil{hp:List Ow}{m:Nat}{S:List (Nat×AV)}:FrLe hp m S []:=λp hp=>by cases hp
theorem FrLe.cons{m:Nat}{S r:List (Nat×AV)}{t:Nat}{x y:AV}(h:BR S t=some x)(L:AVle H m x y)(Y:FrLe H m S r):FrLe H m S ((t,y)::r):=λp H=>by
 rcases List.mem_cons.1 H with rfl | H
 .exact ⟨x,h,L⟩
 .exact Y p H
def OwLe(F:List Ow)(m:Nat):Ow->Ow->Prop
 |_,.dead=>True
 |.var T cells,.var W B=>T=W/\cells.length=B.length/\∀(k:Nat) y,B[k]? = some y->∃x,cells[k]? = some x/\AVle F m x y
 |.row T u P,.row W e f=>T=W/\u=e/\P=f
 |.obj O,.obj i=>O=i
 |.pin l,.pin A=>l.length=A.length/\∀(k:Nat) q,A[k]? = some q->∃p,l[k]? = some p/\p.1=q.1/\AVle F m p.2 q.2
 |_,_=>False
theorem OwLe.dead{m:Nat}:OwLe H m vr .dead:=by cases vr<;>trivial
theorem OwLe.row{hp:List Ow}{m T sz:Nat}{r I:List (List D)}(h:r=I):OwLe hp m (.row T sz r) (.row T sz I):=⟨rfl,rfl,h⟩
theorem OwLe.obj{m:Nat}{O i:OD}(h:O=i):OwLe H m (.obj O) (.obj i):=h
theorem OwLe.pin{m:Nat}{l:List (Value×AV)}(h:∀p∈l,AVle H m p.2 p.2):OwLe H m (.pin l) (.pin l):=⟨rfl,λk q z=>⟨q,z,rfl,h q (List.mem_of_getElem? z)⟩⟩
theorem OwLe.var{m T:Nat}{c r:List AV}(L:c.length=r.length)(h:∀(k:Nat) y,r[k]? = some y->∃x,c[k]? = some x/\AVle H m x y):OwLe H m (.var T c) (.var T r):=⟨rfl,L,h⟩
theorem OwLe.varD{m T:Nat}(h:c=vk):OwLe H m (.var T (c.map .d)) (.var T (vk.map .d)):=by
 subst h;refine⟨rfl,rfl,λk y N=>⟨y,N,?_⟩⟩;rw[List.getElem?_map]at N
 cases B:c[k]? with
 |none=>rw[B]at N;cases N
 |some x=>rw[B]at N;cases N;exact AVle.d rfl
def HpLe(F:List Ow)(m:Nat):List Ow->List Ow->Prop
 |_,[]=>True
 |x::l,y::r=>OwLe F m x y/\HpLe F m l r
 |[],_::_=>False
theorem HpLe.nil{hp:List Ow}{m:Nat}{l:List Ow}:HpLe hp m l []:=by cases l<;>trivial
theorem HpLe.cons{m:Nat}{x y:Ow}{l r:List Ow}(h:OwLe H m x y)(Y:HpLe H m l r):HpLe H m (x::l) (y::r):=⟨h,Y⟩
theorem HpLe.get{F:List Ow}{m:Nat}:∀{l r:List Ow},HpLe F m l r->∀(i:Nat) y,r[i]? = some y->∃x,l[i]? = some x/\OwLe F m x y
 |_,[],_,i,y,h=>by cases h
 |[],_::_,h,_,_,_=>h.elim
 |x::l,y::r,⟨u,A⟩,0,z,h=>by cases h;exact⟨x,rfl,u⟩
 |x::l,y::r,⟨u,A⟩,i+1,z,h=>HpLe.get A i z ZcK
theorem Ac{σ τ:AS}(L:FrLe σ.hp τ.hp.length σ.fr τ.fr)(W:HpLe σ.hp τ.hp.length σ.hp τ.hp):AS.le σ τ:=by
 intro Q n a w ⟨s,S,R,h⟩
 have xb:∀(i:Nat) (G:Ow),τ.hp[i]? = some G->∀b,OwB s (S i) G b->∃o:Ow,σ.hp[i]? = some o/\OwB s (S i) o b:=λi G K b E=>by
  obtain⟨o,A,B⟩:=W.get i G K;refine⟨o,A,?_⟩;cases o<;>cases G<;>first | exact B.elim | exact E.elim | exact E | (replace B:_=_:=B;subst B;exact E)
 refine⟨s,S,R,h.le,h.ok,λt H M=>?_,h.sz,h.df,λi G K=>?_,λi j o G c K F b E d=>?_,λi o b K E=>?_⟩
 .obtain ⟨xa,A,B⟩:=L _ (Ed M)
  exact B _ _ _ _ h.hp (h.fr t xa A)
 .obtain ⟨o,A,B⟩:=W.get i G K
  have I:=h.hp i o A
  cases G with
  |dead=>trivial
  |var T cells=>
   cases o with
   |dead=>exact B.elim
   |row=>exact B.elim
   |obj=>exact B.elim
   |pin=>exact B.elim
   |var e xc=>
    obtain⟨rfl,v,U⟩:=B;obtain⟨b,Z,m,g,J,p4,p5,p6,p7⟩:=I;refine⟨b,Z,m,g,J,p4.trans v,p5,p6,λk H C=>?_⟩;obtain⟨x,Y,X⟩:=U k H C;obtain⟨u,f,r,q5⟩:=p7 k x Y;exact⟨u,f,r,X _ _ _ _ h.hp q5⟩
  |row T N P=>
   cases o with
   |dead=>exact B.elim
   |var=>exact B.elim
   |obj=>exact B.elim
   |pin=>exact B.elim
   |row e xe xd=>
    obtain⟨rfl,rfl,rfl⟩:=B;exact I
  |obj O=>
   cases o with
   |obj O0=>
    replace B:O0=O:=B;subst B;exact I
   |_=>exact B.elim
  |pin l=>
   cases o with
   |pin l0=>
    intro q z;obtain⟨k,C⟩:=List.getElem?_of_mem z;obtain⟨p,Y,X,f⟩:=B.2 k q C;have:=f _ _ _ _ h.hp (I p (List.mem_of_getElem? Y));rwa [X]at this
   |_=>exact B.elim
 .obtain ⟨x,A,B⟩:=xb i o K b E
  obtain⟨y,I,V⟩:=xb j G F b d;exact h.sep i j x y c A I b B V
 .obtain ⟨x,A,B⟩:=xb i o K b E
  exact h.own i x b A B
def params:Nat->List D->List (Nat×AV)
 |_,[]=>[]
 |i,d::R=>(i,.d d)::params (i+1) R
theorem Ji:∀{R:List D} {i t:Nat} {H:AV},BR (params i R) t=some H->i<=t/\t-i<R.length/\H=.d (Df R (t-i))
 |[],i,t,H,h=>by cases h
 |d::R,i,t,H,h=>by
  unfold params at h;rw[Cx]at h;split at h
  .rename_i e
   subst e;cases h;exact⟨Nat.le_refl _,by simp,by simp[Df]⟩
  .rename_i e
   obtain⟨u,A,I⟩:=Ji h;refine⟨by omega,by simp;omega,?_⟩;rw[I,show t-i=(t-(i+1))+1 by omega];simp[Df]
def El(d:Array Value):ResultVar->Sem Value
 |.tmp t=>pure (d.getD t undef)
 |.cell a t=>do loadVar t (<-asAddr (d.getD a undef))
structure ResV(P:Program)(σ:AS)(rv:ResultVar)(x:D):Prop where
 run:∀(base:Nat) (ρ:Nat->Value) (s:GS) (tmps:Array Value),HpOk base ρ s σ.hp->(∀t av,BR σ.fr t=some av->AVr σ.hp.length ρ s av (tmps.getD t undef))->∃v,(El tmps rv).run P s.w=.ok v s.w/\x.rel s v
theorem ResV.tmp{σ:AS}{t:Nat}{x:D}(h:BR σ.fr t=some g)(C:II σ.hp g=some x):ResV P σ (.tmp t) x:=⟨λbase S s d i L=>⟨_,rfl,Ev i (L t g h) C⟩⟩
theorem ResV.cell{σ:AS}{t T X n b id:Nat}{d:TypeDesc}(h:BR σ.fr t=some (.ptr id 0))(F:σ.hp[id]? = some (.var X o))(M:Tab P T d n b z)(W:DS d=true)(G:VV σ.hp o=some c)(C:o.length=n):ResV P σ (.cell t T) (AL c):=by
 refine⟨λbase S s r a q=>?_⟩;obtain⟨-,g,I,A⟩:=q t _ h;obtain⟨w,Z,V,m,y,e,K,R,O⟩:=a id _ F;rw[I]at V;cases V;obtain⟨L,E⟩:=PD G;have N:c.length=n:=by rw[<-L];exact C
 have key:∀j,∃u,j<n->s.w.cell? ⟨g,0+j,none⟩=some u/\u.oneCell'=true/\(Df c j).rel s u:=λj=>by
  by_cases i:j<n
  .have Q:j<o.length:=by omega
   obtain⟨u,l,J,v⟩:=O j _ (List.getElem?_eq_getElem Q);refine⟨u,λ_=>⟨by rw[Nat.zero_add];exact(CH y).trans l,J,?_⟩⟩;exact Ev a v (E j _ (List.getElem?_eq_getElem Q))
  .exact Zhi
 obtain⟨f,p⟩:∃f:Nat->Value,∀j,j<n->s.w.cell? ⟨g,0+j,none⟩=some (f j)/\(f j).oneCell'=true/\(Df c j).rel s (f j):=⟨λj=>(key j).choose,λj i=>(key j).choose_spec i⟩;have Y:=Jd M W g 0 f λj i=>(p j i).1;refine⟨.agg ((List.range n).map f).toArray,?_,_,rfl,by simp[N],λk B=>?_⟩
 .simp [El,A,asAddr,Y]
 .rw [N]at B
  exact⟨f k,by simp[B],(p k B).2⟩
structure Rets(P:Program)(σ:AS)(rs:Array ResultVar)(r:D):Prop where
 run:∀(base:Nat) (ρ:Nat->Value) (s:GS) (tmps:Array Value) (fn:Func),fn.results=rs->HpOk base ρ s σ.hp->(∀t av,BR σ.fr t=some av->AVr σ.hp.length ρ s av (tmps.getD t undef))->∃v,(results fn tmps).run P s.w=.ok v s.w/\r.rel s v
theorem Kq{E V i:Type}(r:Result E)(f:E->World->Result V)(g:V->World->Result i):(r.andThen f).andThen g=r.andThen λa w=>(f a w).andThen g:=by cases r<;>rfl
theorem QO{rv:ResultVar}(h:vK.results=#[rv])(o:(El vz rv).run P w=.ok z w):(results vK vz).run P w=.ok z w:=by
 unfold results;rw[h]
 cases rv with
 |tmp t=>simp[El]at o ⊢;exact o
 |cell a T=>simp[El]at o ⊢;exact o
theorem YK(h:vK.results=#[uE,uR])(o:(El vz uE).run P w=.ok z w)(G:(El vz uR).run P w=.ok v w):(results vK vz).run P w=.ok (.tuple #[z,v]) w:=by
 have key:(results vK vz).run P w=((El vz uE).run P w).andThen λa O=>((El vz uR).run P O).andThen λb H=>.ok (.tuple #[a,b]) H:=by
  unfold results;rw[h];cases uE<;>cases uR<;>simp[El,Kq]
 rw[key,o,Result.andThen_ok,G,Result.andThen_ok]
theorem Ak{x r:D}(h:ResV P vc uE x)(L:D.le x r):Rets P vc #[uE] r:=⟨λbase S s d R p i B=>by
 obtain⟨v,u,A⟩:=h.run base S s d i B;exact⟨v,QO p u,L s v A⟩⟩
theorem Rets.of2(h:ResV P vc uE r)(d:ResV P vc uR vu)(L:D.le (EX [r,vu]) ux):Rets P vc #[uE,uR] ux:=⟨λbase S s F C p i E=>by
 obtain⟨v,u,A⟩:=h.run base S s F i E;obtain⟨R,I,V⟩:=d.run base S s F i E;refine⟨_,YK p u I,L s _ ⟨_,rfl,rfl,λk B=>?_⟩⟩
 match k,B with
 |0,_=>exact⟨_,rfl,A⟩
 |1,_=>exact⟨_,rfl,V⟩
 |k+2,B=>exact absurd B ZbK⟩
structure Fin(P:Program)(fn:Func)(r:D)(e:Exit)(σ:AS):Prop where
 how:e=.ret\/e=.normal
 res:Rets P σ fn.results r
theorem Aq(h:Rets P vc vK.results r):Fin P vK r .ret vc:=⟨.inl rfl,h⟩
theorem Abs.intro{f:FuncId}{c:Code}{ds:List D}(p:P.funcs[f]? = some vK)(E:vK.body=some c)(Y:∀args w,(callFunc f args).run P w=.ok (.enter f args) w)(F:Nat.ble ds.length vK.ntmps=true)
  (h:∀O,AWp P O vK.ntmps c (Fin P vK r) ⟨params 0 ds,[]⟩):Abs P f ds r:=by
 refine⟨Y,λs Q T L G=>calls_of_wp p E ?_⟩;have X:ds.length<=vK.ntmps:=by simpa[Nat.ble_eq]using F
 refine wp_mono ((h ⟨s,λ_=>False,[]⟩).run { tmps:=Q.toArray++Array.replicate (vK.ntmps-Q.toArray.size) undef,defers:=[] } s.w ⟨s,λ_=>undef,rfl,GS.LeX.refl _ s,T,λt H M=>?_,by simp;omega,rfl,(λi o K=>by cases K),(λi j o k _ K=>by cases K),(λi o b K=>by cases K)⟩) ?_
 .obtain ⟨_,A,I⟩:=Ji M
  rw[Nat.sub_zero]at A I;subst I;have V:=G t A;show(Df ds t).rel s ((Q.toArray++Array.replicate (vK.ntmps-Q.toArray.size) undef).getD t undef)
  have:(Q.toArray++Array.replicate (vK.ntmps-Q.toArray.size) undef).getD t undef=Q.getD t undef:=by
   exact ZeV
  rw[this];exact V
 .intro e a w ⟨W,⟨B,J⟩,C,S,R,N⟩
  subst R;obtain⟨v,u,A⟩:=J.run _ S C a.tmps vK rfl N.hp N.fr;rcases B with rfl | rfl
  .exact Zhk
  .exact Zhk
inductive HR
 |av (r:AV)
 |new (T:TypeId) (cs:List Value)
def HR.val:HR->AV
 |.av r=>r
 |.new _ _=>.d Cw
def Eo(f:AS)(rs:List HR)(l:List (Nat×Nat)):Operand->AV
 |.tmp t=>match l.find? (λp=>p.1==t)with
  |some p=>match rs[p.2]? with
   |some h=>h.val
   |none=>.d Cw
  |none=>(BR f.fr t).getD (.d Cw)
 |.global _=>.d Cw
 |x=>f.arg x
def HStep(P:Program)(f:AS)(rs:List HR)(l:List (Nat×Nat))(o:Oper):HR->Prop
 |.av r=>(o.guard=none/\Quiet P f.hp o (Eo f rs l) r)\/∃j b u,o.guard=some (j,b)/\rs[j]? = some (.av (.d (ex u)))/\((u=.bool b/\Quiet P f.hp o (Eo f rs l) r)\/(u≠.bool b/\r=.d (ex undef)))
 |.new T Z=>o.guard=none/\o.op=.alloc T/\T≠335/\Hp Z=true/\∃d n b z,Tab P T d n b z/\z.cells.toList=Z
def HSteps(P:Program)(f:AS)(rs:List HR):List Oper->List (List (Nat×Nat))->List HR->Prop
 |o::L,x::S,r::T=>HStep P f rs x o r/\HSteps P f rs L S T
 |_,[],[]=>True
 |_,_,_=>False
theorem HSteps.nil{σ:AS}{rs:List HR}{L:List Oper}:HSteps P σ rs L [] []:=by cases L<;>trivial
theorem HStep.q{σ:AS}{rs:List HR}{o:Oper}{r:AV}(G:o.guard=none)(h:Quiet P σ.hp o (Eo σ rs vC) r):HStep P σ rs vC o (.av r):=.inl ⟨G,h⟩
variable{uj:List HR}
theorem AN{o:Oper}{j:Nat}{b:Bool}(G:o.guard=some (j,b))(i:uj[j]? = some (.av (.d (ex (.bool b)))))(h:Quiet P vc.hp o (Eo vc uj vC) g):HStep P vc uj vC o (.av g):=.inr ⟨j,b,.bool b,G,i,.inl ⟨rfl,h⟩⟩
theorem A1N{o:Oper}{j:Nat}(G:o.guard=some (j,p))(i:uj[j]? = some (.av (.d (ex z))))(B:isB z p=false):HStep P vc uj vC o (.av (.d (ex undef))):=.inr ⟨j,p,z,G,i,.inr ⟨A0W B,rfl⟩⟩
theorem HStep.n{σ:AS}{rs:List HR}{o:Oper}{T n b:Nat}{d:TypeDesc}(G:o.guard=none)(M:Tab P T d n b z)(C:o.op=.alloc T)(g:T≠335)(u:Hp z.cells.toList=true):HStep P σ rs vC o (.new T z.cells.toList):=⟨G,C,g,u,d,n,b,z,M,rfl⟩
def AS.aft(f:AS):List Oper->List HR->AS
 |o::L,.av r::S=>AS.aft (f.put o.dst r) L S
 |o::L,.new T Z::S=>AS.aft (f.new o.dst (.ptr f.hp.length 0) (.var T (Vg Z))) L S
 |_,_=>f
def HFact(m:Nat)(ρ:Nat->Value)(W:Nat)(i:Nat):HR->Value->GS->Prop
 |.av r=>λv s=>AVr m ρ s r v
 |.new T Z=>λv s=>∃b,v=.pointer (some ⟨b,0,none⟩)/\W<=b/\s.w.heap[b]? = some (.cells Z.toArray T (0,0))/\(∀k,¬s.S b k)/\s.tag b=i+1/\T≠335/\Hp Z=true
theorem HFact.st{m:Nat}{ρ:Nat->Value}{W i:Nat}{r:HR}:RegG.Stab (HFact m ρ W i r):=λv s c L h=>by
 cases r with
 |av r=>exact AVr.chg h L.chg
 |new T Z=>
  obtain⟨b,u,A,I,V,C,y,e⟩:=h;exact⟨b,u,A,(L.ext.block (Bj I)).trans I,λk B=>V k (L.old b k (Bj I) B),(L.tag b (Bj I)).trans C,y,e⟩
def facts(m:Nat)(ρ:Nat->Value)(W:Nat):Nat->List HR->List RegG.VFact
 |_,[]=>[]
 |i,r::S=>HFact m ρ W i r::facts m ρ W (i+1) S
theorem Li{m:Nat}{ρ:Nat->Value}{W:Nat}:∀{S:List HR} {i j:Nat} {r:HR},S[j]? = some r->(facts m ρ W i S)[j]? = some (HFact m ρ W (i+j) r)
 |[],i,j,r,h=>by cases h
 |x::S,i,0,r,h=>by cases h;rfl
 |x::S,i,j+1,r,h=>by
  have:=Li (m:=m) (ρ:=ρ) (W:=W) (i:=i+1) (by simpa using h:S[j]? = some r);simp only[facts,List.getElem?_cons_succ,this];congr 2;omega
theorem Pe{m:Nat}{S:Nat->Value}{W:Nat}:∀(u:List HR) (i:Nat),RegG.StabAll (facts m S W i u)
 |[],_=>trivial
 |_::u,i=>⟨HFact.st,Pe u (i+1)⟩
theorem Rf{m:Nat}{S:Nat->Value}{W:Nat}:∀(u:List HR) (i:Nat),(facts m S W i u).length=u.length
 |[],_=>rfl
 |_::u,i=>by simp[facts,Rf u (i+1)]
theorem VX{s0:An}{n:Nat}{s':GS}{m W:Nat}{ρ0:Nat->Value}{g:Nat->Value}:∀{L:List Oper} {rs:List HR} {i:Nat} {σ:AS} {a:Act} {ρ:Nat->Value},L.length=rs.length->StI s0 n σ a s' ρ->m<=σ.hp.length->(∀j,j<m->ρ j=ρ0 j)->s0.g.w.heap.size<=W ->
  (∀k o b,σ.hp[k]? = some o->OwB s' (ρ k) o b->b<W\/∃j,j<i/\s'.tag b=j+1)->(∀(j:Nat) r,rs[j]? = some r->HFact m ρ0 W (i+j) r (g (i+j)) s')->Gd L L.length n=true->∃ρ',StI s0 n (σ.aft L rs) (EM g L i a) s' ρ'
 | [],[],i,σ,a,ρ,_,h,_,_,_,_,_,_=>⟨ρ,h⟩
 | [],_::_,_,_,_,_,hl,_,_,_,_,_,_,_=>by simp at hl
 | _::_,[],_,_,_,_,hl,_,_,_,_,_,_,_=>by simp at hl
 | o::L,r::rs,i,σ,a,ρ,hl,h,hm,hρ,hW,hb,hf,hd=>by
  have hd1:∀d,o.dst=some d->d<n:=λd hdo=>by
   have h2:=List.all_eq_true.1 hd o (by simp)
   simp only [hdo,decide_eq_true_eq] at h2
   exact h2
  have hd2:Gd L L.length n=true:=List.all_eq_true.2 λx hx=>List.all_eq_true.1 hd x (by simp at hx ⊢;exact .inr hx)
  have hf0:=hf 0 r rfl
  rw [Nat.add_zero] at hf0
  have hf':∀(j:Nat) r',rs[j]? = some r'->HFact m ρ0 W (i+1+j) r' (g (i+1+j)) s':=λj r' hj=>by
   have:=hf (j+1) r' (by simpa using hj)
   rw [show i+(j+1)=i+1+j by omega] at this
   exact this
  cases r with
  | av r=>
   have h1:=h.put (GS.Le.refl s') hd1 (v:=g i) (r:=r) (hf0.mono hm hρ)
   refine VX (L:=L) (rs:=rs) (i:=i+1) (by simpa using hl) h1 ?_ hρ hW ?_ hf' hd2
   .cases hdo:o.dst<;>exact hm
   .intro k o' b hk hv
    have hk':σ.hp[k]? = some o':=by cases hdo:o.dst<;>(rw [hdo] at hk;exact hk)
    rcases hb k o' b hk' hv with h2 | ⟨j,h2,h3⟩
    .exact .inl h2
    .exact .inr ⟨j,by omega,h3⟩
  | new T cs=>
   obtain ⟨b,e1,e2,e3,e4,e5,e6,e7⟩:=hf0
   have h1:=h.newG (GS.Le.refl s') hd1 (v:=g i) (u:=.pointer (some ⟨b,0,none⟩)) (r:=.ptr σ.hp.length 0) (ow:=.var T (Vg cs)) ⟨by omega,b,by simp,e1⟩ ?_ ?_ (λb' hb'=>by cases hb';exact .inr (Nat.le_trans hW e2))
   .refine VX (L:=L) (rs:=rs) (i:=i+1) (by simpa using hl) h1 (by show m<=(σ.hp++[_]).length; simp; omega) (λj hj=>by rw [if_neg (by omega)]; exact hρ j hj) hW ?_ hf' hd2
    intro k o' b' hk hv
    replace hk:(σ.hp++[Ow.var T (Vg cs)])[k]? = some o':=hk
    rw [List.getElem?_append] at hk
    split at hk
    .rename_i hlt
     rw [if_neg (by omega)] at hv
     rcases hb k o' b' hk hv with h2 | ⟨j,h2,h3⟩
     .exact .inl h2
     .exact .inr ⟨j,by omega,h3⟩
    .rename_i hge
     have:k=σ.hp.length:=by
      have:=BV hk
      simp at this
      omega
     subst this
     rw [if_pos rfl] at hv
     have ho:o' = .var T (Vg cs):=by simp at hk;exact hk.symm
     subst ho
     cases hv
     exact .inr ⟨i,by omega,e5⟩
   .refine ⟨b, cs.toArray, by simp, Nat.zero_le _, e3, by simp [Vg], e6, e4, λk av hk=>?_⟩
    unfold Vg at hk
    rw [List.getElem?_map] at hk
    cases hz:cs[k]? with
    | none=>rw [hz] at hk;cases hk
    | some u=>
     rw [hz] at hk
     cases hk
     exact ⟨u,by simpa using hz,List.all_eq_true.1 e7 u (List.mem_of_getElem? hz),rfl⟩
   .intro b' hb' k o' hk hv
    cases hb'
    rcases hb k o' b hk hv with h2 | ⟨j,h2,h3⟩
    .omega
    .omega
structure DrawOk(P:Program)(s0:An)(n:Nat)(id:Nat)(L0:Array Oper)(L:List Oper)(Q0 Q:Exit->AS->Prop):Prop where
 run:∀(a:Act) (w:World),wpAny P .any L.toArray (FG s0 n Q) L.toArray.size (Array.replicate L.toArray.size false) a w.drew->(Code.region id L0 true).wp P (FG s0 n Q0) a w
theorem UT{s0:An}{n:Nat}{L:List Oper}{Q:Exit->AS->Prop}(s:P.follows .mixedOrders=true):DrawOk P s0 n b L.toArray L Q Q:=⟨λ_ _ h=>wp_region_any s h⟩
theorem A23{P:Program}{s0:An}{n:Nat}{Q Q0:Exit->AS->Prop}{σ:AS}{id:Nat}{L0:Array Oper}{L:List Oper}(hm:DrawOk P s0 n id L0 L Q0 Q)(es:List (List (Nat×Nat)))(bs:List (List Nat))(rs:List HR)(hlen:(es.length==bs.length&&es.length==rs.length&&Nat.ble rs.length L.length)=true)(hok:Dp L (EO 0 es bs)=true)(hd:Gd L es.length n=true)(steps:HSteps P σ rs L es rs)
  (tail:AWl P s0 n L.toArray Q (L.drop es.length) (σ.aft (L.take es.length) rs)):AWp P s0 n (.region id L0 true) Q0 σ:=by
 refine ⟨λa w ⟨s,ρ,hw,hst⟩=>?_⟩
 subst hw
 simp only [Bool.and_eq_true,beq_iff_eq,Nat.ble_eq] at hlen
 obtain ⟨⟨hl1,hl2⟩,hl3⟩:=hlen
 refine RegG.wp_region_v (hm.run a s.w) es bs (facts σ.hp.length ρ s.w.heap.size 0 rs) (by rw [Rf];simp [hl1,hl2];omega) hok (by rw [hst.sz];exact hd) (Pe rs 0) ?_ λg s' hE hF=>?_
 .have hle0:GS.Le s s.dr:=Iq s
  have step:∀(o:Oper) (x:List (Nat×Nat)) (r:HR) (i:Nat),HStep P σ rs x o r->RegG.UStep P (facts σ.hp.length ρ s.w.heap.size 0 rs) a s.dr o x (HFact σ.hp.length ρ s.w.heap.size i r):=by
   intro o x r i hr s1 ev hE hk ha hc hf
   have hle:GS.Le s s1:=hle0.trans hE
   have hhp:=hst.hp.le hle
   have hok1:=hle.ok hst.ok
   have hbase:0<=s1.w.heap.size:=Nat.zero_le _
   have hknown:∀(x:List (Nat×Nat)),RegG.OpsKnown (facts σ.hp.length ρ s.w.heap.size 0 rs) ev s1 x->∀p∈x,∀F,(facts σ.hp.length ρ s.w.heap.size 0 rs)[p.2]? = some F->F (ev (.tmp p.1)) s1:=by
    intro x
    induction x with
    | nil=>intro _ p hp;cases hp
    | cons q x ih=>
     intro h p hp
     obtain ⟨t,j⟩:=q
     rcases List.mem_cons.1 hp with rfl | hp
     .exact h.1
     .exact ih h.2 p hp
   have hargs:∀y,y∈o.op.operands->AVr σ.hp.length ρ s1 (Eo σ rs x y) (ev y):=by
    intro y _
    cases y with
    | tmp t=>
     show AVr _ ρ s1 (match x.find? (λp=>p.1==t) with
      | some p=>match rs[p.2]? with
       | some h=>h.val
       | none=>.d Cw
      | none=>(BR σ.fr t).getD (.d Cw)) _
     cases hfd:x.find? (λp=>p.1==t) with
     | some p=>
      have hp:p∈x:=List.mem_of_find?_eq_some hfd
      have hpt:p.1=t:=by simpa using List.find?_some hfd
      simp only
      cases hrp:rs[p.2]? with
      | none=>trivial
      | some h=>
       have h1:=hknown x hk p hp _ (Li hrp)
       rw [hpt] at h1
       cases h with
       | av r=>exact h1
       | new T cs=>trivial
     | none=>
      simp only
      rw [ha t λp hp e=>by have:=List.find?_eq_none.1 hfd p hp;simp [e] at this]
      exact (hst.arg (.tmp t)).chg hle.chg
    | const v=>show ev _=v;exact hc v
    | global b=>
     trivial
    | func f=>show ev _=_;exact hf f
   cases r with
   | av r=>
    rcases hr with ⟨hg,hq⟩ | ⟨j,b,c,hg,hj,hq⟩
    .rw [hg]
     exact hq.run _ s1 ρ ev hok1 hbase hhp hargs
    .rw [hg]
     intro gv hgv
     have h1:=hgv _ (Li hj)
     have e1:gv=c:=h1
     rcases hq with ⟨rfl,hq⟩ | ⟨hne,rfl⟩
     .exact ⟨λ_=>hq.run _ s1 ρ ev hok1 hbase hhp hargs,λh=>absurd e1 h⟩
     .exact ⟨λh=>by rw [e1] at h;exact absurd h hne,λ_=>rfl⟩
   | new T cs=>
    obtain ⟨hg,hop,hT,h1,d,k,b,z,ht,hz⟩:=hr
    rw [hg]
    subst hz
    have hrun:(execOp ev o).run P s1.w = .ok (.value (.pointer (some ⟨s1.w.heap.size,0,none⟩))) (s1.w.alloc (.cells z.cells T)):=by
     simp [execOp,hop,Instr.alloc,ht.run_zero,Iv]
    refine JK hrun (s1.mk' z.cells T (i+1)) rfl ⟨s1.le_mk' z.cells T (i+1) hT,s1.w.heap.size,rfl,hle.ext.size,heap_alloc_new s1.w _,λk hk=>absurd (hok1.lt _ _ hk) (Nat.lt_irrefl _),?_,hT,h1⟩
    show (if s1.w.heap.size=s1.w.heap.size then i+1 else _)=i+1
    rw [if_pos rfl]
  have all:∀(L:List Oper) (es:List (List (Nat×Nat))) (T:List HR) (i:Nat),HSteps P σ rs L es T->RegG.USteps P (facts σ.hp.length ρ s.w.heap.size 0 rs) a s.dr L es (facts σ.hp.length ρ s.w.heap.size i T):=by
   intro L
   induction L with
   | nil=>
    intro es T i h
    cases es with
    | nil=>cases T with
     | nil=>trivial
     | cons=>exact h.elim
    | cons=>cases T<;>exact h.elim
   | cons o L ih=>
    intro es T i h
    cases es with
    | nil=>cases T with
     | nil=>trivial
     | cons=>exact h.elim
    | cons x es=>cases T with
     | nil=>exact h.elim
     | cons r T=>exact ⟨step o x r i h.1,ih es T (i+1) h.2⟩
  exact all L es rs 0 steps
 .have hle:GS.Le s s':=(Iq s).trans hE
  have hst':StI s0 n σ a s' ρ:=hst.put hle (dst:=none) (λd hd=>by cases hd) (v:=undef) (r:=.d Cw) trivial
  have htl:(L.take es.length).length=rs.length:=by simp;omega
  obtain ⟨ρ',hfin⟩:=VX (g:=g) (L:=L.take es.length) (rs:=rs) (i:=0) (W:=s.w.heap.size) (m:=σ.hp.length) (ρ0:=ρ) htl hst' (Nat.le_refl _) (λ_ _=>rfl) hst.le.size (λk o b hk hv=>.inl ((hst.hp k o hk).blk_lt0 (OwB.le (hst.hp k o hk) hle hv))) (λj r hj=>by
   rw [Nat.zero_add]
   have:=hF j _ (Li hj)
   rwa [Nat.zero_add] at this) (by
   have:(L.take es.length).take (L.take es.length).length=L.take es.length:=List.take_length
   unfold Gd
   rw [this]
   exact hd)
  exact tail.run _ _ ⟨s',ρ',rfl,hfin⟩
section
variable {P:Program} {s0:An} {n:Nat} {Q:Exit->AS->Prop} {σ:AS}
theorem IS(h:uq σ):AThen uq Q .normal σ:=⟨h⟩
theorem Di(h:Q .ret σ):AThen uq Q .ret σ:=⟨h⟩
theorem BF{i:Nat}(h:Q (.exit i) σ):AThen uq Q (.exit i) σ:=⟨h⟩
theorem BE{i:Nat}(h:Q .normal σ):ABlock i Q .normal σ:=⟨h⟩
theorem Dz{i:Nat}(h:Q .ret σ):ABlock i Q .ret σ:=⟨h⟩
theorem BJ{i:Nat}(h:Q .normal σ):ABlock i Q (.exit i) σ:=⟨by
 show(if i=i then Q .normal σ else Q (.exit i) σ);rw[if_pos rfl];exact h⟩
theorem Vb{i j:Nat}(B:Nat.beq j i=false)(h:Q (.exit j) σ):ABlock i Q (.exit j) σ:=⟨by
 show(if j=i then Q .normal σ else Q (.exit j) σ);rw[if_neg (Nat.ne_of_beq_eq_false B)];exact h⟩
theorem RE{m:Nat}(h:Q .ret σ):ALoop uS m Q .ret σ:=⟨h⟩
theorem Ca{m i:Nat}(h:Q (.exit i) σ):ALoop uS m Q (.exit i) σ:=⟨h⟩
theorem Am{m:Nat}(O:Nat)(s:O<m)(Z:uS O vc)(L:AS.le σ vc):ALoop uS m Q .normal σ:=⟨O,s,vc,Z,L⟩
end
end
end Go.Proofs.YtcikkglcoeedlaaGreat
