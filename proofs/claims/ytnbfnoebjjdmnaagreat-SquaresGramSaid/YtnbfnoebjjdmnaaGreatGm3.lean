/- Part 3 of the proof of squaresGram_holds. No condition. -/
import Derived.Deep.Upon
import Derived.Test.YtnbfnoebjjdmnaaGreatGm2
set_option linter.unusedSimpArgs false
set_option linter.unusedVariables false
set_option maxRecDepth 100000
namespace Go.Proofs.YtnbfnoebjjdmnaaGreat
open Go.RowKit
def IH(s0:An)(n:Nat)(Q:Exit->AS->Prop):Exit->Act->World->Prop:=λe a w=>∃σ,Q e σ/\St s0 n σ a w
structure AWp(P:Program)(s0:An)(n:Nat)(c:Code)(Q:Exit->AS->Prop)(σ:AS):Prop where
 run:∀a w,St s0 n σ a w->c.wp P (IH s0 n Q) a w
structure AWl(P:Program)(s0:An)(n:Nat)(ops:Array Oper)(Q:Exit->AS->Prop)(l:List Oper)(σ:AS):Prop where
 run:∀a w,St s0 n σ a w->wpList P ops (IH s0 n Q) l a w
def A33(next:AS->Prop)(Q:Exit->AS->Prop):Exit->AS->Prop
 | .normal,σ=>next σ
 | e,σ=>Q e σ
structure AThen(next:AS->Prop)(Q:Exit->AS->Prop)(e:Exit)(σ:AS):Prop where
 run:A33 next Q e σ
def A1A(id:Nat)(Q:Exit->AS->Prop):Exit->AS->Prop
 | .exit j,σ=>if j=id then Q .normal σ else Q (.exit j) σ
 | e,σ=>Q e σ
structure ABlock(id:Nat)(Q:Exit->AS->Prop)(e:Exit)(σ:AS):Prop where
 run:A1A id Q e σ
section
variable {P:Program} {s0:An} {n:Nat} {Q:Exit->AS->Prop} {σ:AS}
theorem Aa{x y:Code}(h:AWp P s0 n x (AThen (AWp P s0 n y Q) Q) σ):AWp P s0 n (.seq x y) Q σ:=⟨λa w hs=>wp_seq (wp_mono (h.run a w hs) λe a' w' ⟨σ',⟨h1⟩,h2⟩=>by
 cases e with
 | normal=>exact AWp.run h1 a' w' h2
 | _=>exact ⟨σ',h1,h2⟩)⟩
theorem AWp.block{id:Nat}{c:Code}(h:AWp P s0 n c (ABlock id Q) σ):AWp P s0 n (.block id c) Q σ:=⟨λa w hs=>wp_block (wp_mono (h.run a w hs) λe a' w' ⟨σ',⟨h1⟩,h2⟩=>by
 cases e with
 | exit j=>
  show if j=id then IH s0 n Q .normal a' w' else IH s0 n Q (.exit j) a' w'
  have h1:if j=id then Q .normal σ' else Q (.exit j) σ':=h1
  split
  .rename_i hj;rw [if_pos hj] at h1;exact ⟨σ',h1,h2⟩
  .rename_i hj;rw [if_neg hj] at h1;exact ⟨σ',h1,h2⟩
 | _=>exact ⟨σ',h1,h2⟩)⟩
theorem Bw(h:Q .normal σ):AWp P s0 n .skip Q σ:=⟨λ_ _ hs=>wp_skip ⟨σ,h,hs⟩⟩
theorem AP{id:Nat}(h:Q (.exit id) σ):AWp P s0 n (.exit id) Q σ:=⟨λ_ _ hs=>wp_exit ⟨σ,h,hs⟩⟩
theorem At(h:Q .ret σ):AWp P s0 n .ret Q σ:=⟨λ_ _ hs=>wp_ret ⟨σ,h,hs⟩⟩
theorem St.exD{x:Operand}{v:Value}(hx:σ.arg x = .d (ex v)){a:Act}{w:World}(hs:St s0 n σ a w):a.eval x=v:=by
 obtain ⟨s,ρ,rfl,h⟩:=hs
 have:=h.arg x
 rw [hx] at this
 exact this
theorem OA{c:Operand}{x y:Code}(hc:σ.arg c = .d (ex (.bool true)))(h:AWp P s0 n x Q σ):AWp P s0 n (.cond c x y) Q σ:=⟨λa w hs=>wp_cond_true (hs.exD hc) (h.run a w hs)⟩
theorem OC{c:Operand}{x y:Code}(hc:σ.arg c = .d (ex (.bool false)))(h:AWp P s0 n y Q σ):AWp P s0 n (.cond c x y) Q σ:=⟨λa w hs=>wp_cond_false (hs.exD hc) (h.run a w hs)⟩
theorem KP{c:Operand}{x y:Code}{t:Bool}(hc:σ.arg c = .d (ex (.bool t)))(ht:t=true)(h:AWp P s0 n x Q σ):AWp P s0 n (.cond c x y) Q σ:=OA (by rw [hc,ht]) h
theorem KQ{c:Operand}{x y:Code}{t:Bool}(hc:σ.arg c = .d (ex (.bool t)))(ht:t=false)(h:AWp P s0 n y Q σ):AWp P s0 n (.cond c x y) Q σ:=OC (by rw [hc,ht]) h
def AS.le(x y:AS):Prop:=∀s0 n a w,St s0 n x a w->St s0 n y a w
theorem GZ{c:Code}{σ':AS}(hl:AS.le σ σ')(h:AWp P s0 n c Q σ'):AWp P s0 n c Q σ:=⟨λa w hs=>h.run a w (hl _ _ _ _ hs)⟩
theorem TK{ops:Array Oper}{l:List Oper}{σ':AS}(hl:AS.le σ σ')(h:AWl P s0 n ops Q l σ'):AWl P s0 n ops Q l σ:=⟨λa w hs=>h.run a w (hl _ _ _ _ hs)⟩
def A34(I:Nat->AS->Prop)(m:Nat)(Q:Exit->AS->Prop):Exit->AS->Prop
 | .normal,σ=>∃m',m'<m/\∃σ',I m' σ'/\AS.le σ σ'
 | e,σ=>Q e σ
structure ALoop(I:Nat->AS->Prop)(m:Nat)(Q:Exit->AS->Prop)(e:Exit)(σ:AS):Prop where
 run:A34 I m Q e σ
theorem AQ{c:Code}(I:Nat->AS->Prop){m:Nat}{σ':AS}(hl:AS.le σ σ')(h0:I m σ')(round:∀m σ,I m σ->AWp P s0 n c (ALoop I m Q) σ):AWp P s0 n (.loop c) Q σ:=by
 refine ⟨λa w hs b k cs=>?_⟩
 have key:∀(m:Nat) (a:Act) (w:World) (σ:AS),I m σ->St s0 n σ a w->∃e a' w',IH s0 n Q e a' w'/\Arrives P (lone (b.at a (.code c :: .inLoop c::k)) cs w) b k cs e a' w':=by
  intro m
  induction m using Nat.strongRecOn with
  | _ m ih=>
   intro a w σ hI hst
   obtain ⟨e,a1,w1,⟨σ1,⟨hq⟩,hst1⟩,harr⟩:=(round m σ hI).run a w hst b (.inLoop c::k) cs
   cases e with
   | normal=>
    obtain ⟨m',hlt,σ2,hI2,hle⟩:=hq
    obtain ⟨e2,a2,w2,hq2,harr2⟩:=ih m' hlt a1 w1 σ2 hI2 (hle _ _ _ _ hst1)
    exact ⟨e2,a2,w2,hq2,.of_steps (Steps.trans harr (.one step_inLoop)) harr2⟩
   | exit id=>exact ⟨_,a1,w1,⟨σ1,hq,hst1⟩,.pass (x:=.inLoop c) rfl (λ_ _=>.inl (by simp)) harr⟩
   | goto l=>exact ⟨_,a1,w1,⟨σ1,hq,hst1⟩,.pass (x:=.inLoop c) rfl (λ_ _=>.inl (by simp)) harr⟩
   | ret=>exact ⟨_,a1,w1,⟨σ1,hq,hst1⟩,.pass (x:=.inLoop c) rfl (λ_ _=>.inl (by simp)) harr⟩
   | panic ch=>exact ⟨_,a1,w1,⟨σ1,hq,hst1⟩,.pass (x:=.inLoop c) rfl (λ_ _=>.inl (by simp)) harr⟩
   | outgrown=>exact ⟨_,a1,w1,⟨σ1,hq,hst1⟩,.pass (x:=.inLoop c) rfl (λ_ _=>.inl (by simp)) harr⟩
 obtain ⟨e,a',w',hq,harr⟩:=key m a w σ' h0 (hl _ _ _ _ hs)
 exact ⟨e,a',w',hq,.of_steps (.one step_loop) harr⟩
end
def UH(dst:Option Tmp)(n:Nat):Bool:=match dst with | some d=>Nat.blt d n | none=>true
theorem IM{dst:Option Tmp}{n:Nat}(h:UH dst n=true):∀d,dst=some d->d<n:=λd hd=>by subst hd;exact by simpa [UH,Nat.blt_eq] using h
section
variable {P:Program} {s0:An} {n:Nat} {ops:Array Oper} {Q:Exit->AS->Prop} {rest:List Oper} {o:Oper} {σ:AS}
theorem AWp.region{id:Nat}{l:List Oper}(h:AWl P s0 n l.toArray Q l σ):AWp P s0 n (.region id l.toArray false) Q σ:=⟨λa w hs=>wp_region_lit (h.run a w hs)⟩
theorem AWl.nil(h:Q .normal σ):AWl P s0 n ops Q [] σ:=⟨λ_ _ hs=>⟨σ,h,hs⟩⟩
theorem AWl.step(hg:o.guard=none)(h:∀(s:GS) (ρ:Nat->Value) (a:Act),StI s0 n σ a s ρ->∀K:Act->World->Prop,(∀σ' a' w',AWl P s0 n ops Q rest σ'->St s0 n σ' a' w'->K a' w')->o.wp P a s.w K (IH s0 n Q)):AWl P s0 n ops Q (o::rest) σ:=by
 refine ⟨λa w ⟨s,ρ,hw,hst⟩=>?_⟩
 subst hw
 exact wpList_plain hg λK hK=>h s ρ a hst K λσ' a' w' h1 h2=>hK a' w' (h1.run a' w' h2)
theorem A03{j:Nat}{b:Bool}{d:Nat}(hg:o.guard=some (j,b))(hy:(ops[j]?).bind (·.dst)=some d)(hl:CA σ.fr d=some (.d (ex (.bool b))))(h:∀(s:GS) (ρ:Nat->Value) (a:Act),StI s0 n σ a s ρ->∀K:Act->World->Prop,(∀σ' a' w',AWl P s0 n ops Q rest σ'->St s0 n σ' a' w'->K a' w')->o.wp P a s.w K (IH s0 n Q))(hd:d<n):AWl P s0 n ops Q (o::rest) σ:=by
 refine ⟨λa w ⟨s,ρ,hw,hst⟩=>?_⟩
 subst hw
 refine wpList_step λK hK=>?_
 have e1:a.tmps.getD d undef = .bool b:=hst.fr d _ hl
 have hdl:d<a.tmps.size:=by rw [hst.sz];exact hd
 have e2:a.tmps[d]? = some (.bool b):=by
  rw [Array.getD_eq_getD_getElem?,Array.getElem?_eq_getElem hdl] at e1
  rw [Array.getElem?_eq_getElem hdl]
  exact congrArg some e1
 rw [if_pos (by simp [Region.wanted,hg,yielded,hy,e2])]
 exact h s ρ a hst K λσ' a' w' h1 h2=>hK a' w' (h1.run a' w' h2)
def isB:Value->Bool->Bool
 | .bool c,b=>c==b
 | _,_=>false
theorem YN{u:Value}{b:Bool}(h:isB u b=false):u ≠ .bool b:=λe=>by
 rw [e] at h
 simp [isB] at h
theorem Xo{j:Nat}{b:Bool}{u:Value}{d:Nat}(hg:o.guard=some (j,b))(hy:(ops[j]?).bind (·.dst)=some d)(hl:CA σ.fr d=some (.d (ex u)))(hne:isB u b=false)(hd:d<n)(hdl:UH o.dst n=true)(h:AWl P s0 n ops Q rest (σ.put o.dst (.d (ex undef)))):AWl P s0 n ops Q (o::rest) σ:=by
 refine ⟨λa w ⟨s,ρ,hw,hst⟩=>?_⟩
 subst hw
 refine wpList_step λK hK=>?_
 have e1:a.tmps.getD d undef=u:=hst.fr d _ hl
 have hdl2:d<a.tmps.size:=by rw [hst.sz];exact hd
 have e2:a.tmps[d]? = some u:=by
  rw [Array.getD_eq_getD_getElem?,Array.getElem?_eq_getElem hdl2] at e1
  rw [Array.getElem?_eq_getElem hdl2]
  exact congrArg some e1
 have hne':u ≠ .bool b:=YN hne
 rw [if_neg (by
  simp only [Region.wanted,hg,yielded,hy,Option.bind_some,e2,beq_iff_eq]
  split
  .rename_i c hc
   cases hc
   exact λe=>hne' (by rw [Option.some.inj e])
  .simp)]
 exact hK _ _ (h.run _ _ ⟨s,ρ,rfl,hst.put (GS.Le.refl s) (IM hdl) rfl⟩)
theorem QA{r:AV}(hs:Cd o.op=true)(hd:UH o.dst n=true)(hq:Quiet P σ.hp o σ.arg r)(h:AWl P s0 n ops Q rest (σ.put o.dst r)):∀(s:GS) (ρ:Nat->Value) (a:Act),StI s0 n σ a s ρ->∀K:Act->World->Prop,(∀σ' a' w',AWl P s0 n ops Q rest σ'->St s0 n σ' a' w'->K a' w')->o.wp P a s.w K (IH s0 n Q):=
 λs ρ a hst K hK=>RegG.opStep_wp hs (λ_ _=>rfl) (hq.run 0 s ρ a.eval hst.ok (Nat.zero_le _) hst.hp λx _=>hst.arg x) λv s' ⟨hl,hr⟩=>hK _ _ _ h ⟨s',ρ,rfl,hst.put hl (IM hd) hr⟩
theorem Xp{r:AV}(hg:o.guard=none)(hs:Cd o.op=true)(hd:UH o.dst n=true)(hq:Quiet P σ.hp o σ.arg r)(h:AWl P s0 n ops Q rest (σ.put o.dst r)):AWl P s0 n ops Q (o::rest) σ:=AWl.step hg (QA hs hd hq h)
theorem TO{r:AV}{j:Nat}{b:Bool}{d:Nat}(hg:o.guard=some (j,b))(hy:(ops[j]?).bind (·.dst)=some d)(hl:CA σ.fr d=some (.d (ex (.bool b))))(hdn:d<n)(hs:Cd o.op=true)(hd:UH o.dst n=true)(hq:Quiet P σ.hp o σ.arg r)(h:AWl P s0 n ops Q rest (σ.put o.dst r)):AWl P s0 n ops Q (o::rest) σ:=A03 hg hy hl (QA hs hd hq h) hdn
end
section
variable {s0:An} {n:Nat} {σ:AS} {a:Act} {s:GS} {ρ:Nat->Value}
theorem CD{hp:List Ow}{i:Nat}{o:Ow}(h:hp[i]? = some o):i<hp.length:=(List.getElem?_eq_some_iff.1 h).1
theorem OwR.mono{base m m' i:Nat}{ρ':Nat->Value}{o:Ow}(h:OwR base m ρ s i o)(hm:m<=m')(hρ:∀j,j<m->ρ' j=ρ j)(hi:i<m):OwR base m' ρ' s i o:=by
 cases o with
 | dead=>trivial
 | var T cells=>
  obtain ⟨b,cs,h1,h2,h3,h4,h5,h6,h7⟩:=h
  refine ⟨b,cs,(hρ i hi).trans h1,h2,h3,h4,h5,h6,λk av hk=>?_⟩
  obtain ⟨u,h8,h9,h10⟩:=h7 k av hk
  exact ⟨u,h8,h9,h10.mono hm hρ⟩
 | row T sz rows=>
  unfold OwR
  rw [hρ i hi]
  exact h
 | obj O=>
  unfold OwR
  rw [hρ i hi]
  exact h
 | pin l=>exact λp hp=>(h p hp).mono hm hρ
theorem OwR.keep{base m i:Nat}{o:Ow}{s':GS}(h:OwR base m ρ s i o)(hc:GS.Chg s s')(hb:∀b,OwB s (ρ i) o b->s'.w.heap[b]? = s.w.heap[b]? /\ ∀k,s'.S b k↔s.S b k):OwR base m ρ s' i o:=by
 cases o with
 | dead=>trivial
 | var T cells=>
  obtain ⟨b,cs,h1,h2,h3,h4,h5,h6,h7⟩:=h
  obtain ⟨e1,e2⟩:=hb b (show DZ (ρ i)=some b by rw [h1];rfl)
  refine ⟨b,cs,h1,h2,e1.trans h3,h4,h5,λk hk=>h6 k ((e2 k).1 hk),λk av hk=>?_⟩
  obtain ⟨u,h8,h9,h10⟩:=h7 k av hk
  exact ⟨u,h8,h9,h10.chg hc⟩
 | row T sz rows=>
  obtain ⟨xs,⟨h1,h2⟩,h3,h4,h5,h6⟩:=h
  refine ⟨xs,⟨h1,?_⟩,h3,h4,λb hb' k=>((hb b hb').2 k).trans (h5 b hb' k),λk hk=>⟨(h6 k hk).1,λj hj=>?_⟩⟩
  .rcases h2 with h2 | ⟨g,cap,cur,e1,e2,e3,e4⟩
   .exact .inl h2
   .exact .inr ⟨g,cap,cur,e1,e2,(hb g (show DZ (ρ i)=some g by rw [e1];rfl)).1.trans e3,e4⟩
  .obtain ⟨u,h8,h9,h10⟩:=(h6 k hk).2 j hj
   exact ⟨u,h8,h9,(Cj _ j).st h10 hc⟩
 | obj O=>exact (O.keep h hc hb).1
 | pin l=>exact λp hp=>(h p hp).chg hc
theorem StI.newG(h:StI s0 n σ a s ρ){s':GS}(hl:GS.Le s s'){dst:Option Tmp}(hd:∀d,dst=some d->d<n){v u:Value}{r:AV}{ow:Ow}(hr:AVr (σ.hp.length+1) (λi=>if i=σ.hp.length then u else ρ i) s' r v)
  (ho:OwR 0 (σ.hp.length+1) (λi=>if i=σ.hp.length then u else ρ i) s' σ.hp.length ow) (hb:∀b,OwB s' u ow b->∀i o,σ.hp[i]? = some o->¬OwB s (ρ i) o b) (hm:∀b,OwB s' u ow b->s0.mine b\/s0.g.w.heap.size<=b) :
  StI s0 n { fr:=(σ.put dst r).fr,hp:=σ.hp++[ow] } (a.put dst v) s' (λi=>if i=σ.hp.length then u else ρ i):=by
 have hρ:∀j,j<σ.hp.length->(if j=σ.hp.length then u else ρ j)=ρ j:=λj hj=>if_neg (by omega)
 have hlen:(σ.hp++[ow]).length=σ.hp.length+1:=by simp
 have key:∀i o,(σ.hp++[ow])[i]? = some o->∀b,OwB s' (if i=σ.hp.length then u else ρ i) o b->(i<σ.hp.length/\σ.hp[i]? = some o/\OwB s (ρ i) o b)\/(i=σ.hp.length/\o=ow/\OwB s' u ow b):=λi o hi b hbi=>by
  rw [List.getElem?_append] at hi
  split at hi
  .rename_i hlt
   rw [if_neg (by omega)] at hbi
   exact .inl ⟨hlt,hi,OwB.le (h.hp i o hi) hl hbi⟩
  .rename_i hge
   have:i=σ.hp.length:=by
    have:=CD hi
    simp at this
    omega
   subst this
   simp at hi
   subst hi
   rw [if_pos rfl] at hbi
   exact .inr ⟨rfl,rfl,hbi⟩
 refine ⟨h.le.trans hl,hl.ok h.ok,λt av ht=>?_,?_,?_,λi o hi=>?_,λi j o o' hij hi hj b hbi hbj=>?_,λi o b hi hbi=>?_⟩
 .show AVr (σ.hp++[ow]).length _ s' av _
  rw [hlen]
  cases dst with
  | none=>exact ((h.fr t av ht).chg hl.chg).mono (Nat.le_succ _) hρ
  | some d=>
   replace ht:CA ((d,r)::σ.fr) t=some av:=ht
   rw [DL] at ht
   simp only [Act.put]
   by_cases hdt:d=t
   .rw [if_pos hdt] at ht
    cases ht
    subst hdt
    have:d<a.tmps.size:=by rw [h.sz];exact hd d rfl
    simp [this]
    exact hr
   .rw [if_neg hdt] at ht
    have:=((h.fr t av ht).chg hl.chg).mono (Nat.le_succ _) hρ
    rw [Array.getD_eq_getD_getElem?] at this ⊢
    rwa [Array.getElem?_setIfInBounds_ne hdt]
 .unfold Act.put;split<;>simp [h.sz]
 .unfold Act.put;split<;>simp [h.df]
 .show OwR 0 (σ.hp++[ow]).length _ s' i o
  rw [hlen]
  rw [List.getElem?_append] at hi
  split at hi
  .rename_i hlt
   exact ((h.hp i o hi).le hl).mono (Nat.le_succ _) hρ hlt
  .rename_i hge
   have:i=σ.hp.length:=by
    have:=CD hi
    simp at this
    omega
   subst this
   simp at hi
   subst hi
   exact ho
 .rcases key i o hi b hbi with ⟨h1,h2,h3⟩ | ⟨h1,h2,h3⟩<;>rcases key j o' hj b hbj with ⟨h5,h6,h7⟩ | ⟨h5,h6,h7⟩
  .exact h.sep i j o o' hij h2 h6 b h3 h7
  .exact hb b h7 i o h2 h3
  .exact hb b h3 j o' h6 h7
  .omega
 .rcases key i o hi b hbi with ⟨h1,h2,h3⟩ | ⟨h1,h2,h3⟩
  .exact h.own i o b h2 h3
  .exact hm b h3
theorem StI.new(h:StI s0 n σ a s ρ){s':GS}(hl:GS.Le s s'){dst:Option Tmp}(hd:∀d,dst=some d->d<n){v u:Value}{r:AV}{ow:Ow}(hr:AVr (σ.hp.length+1) (λi=>if i=σ.hp.length then u else ρ i) s' r v)
  (ho:OwR 0 (σ.hp.length+1) (λi=>if i=σ.hp.length then u else ρ i) s' σ.hp.length ow) (hb:∀b,OwB s' u ow b->s.w.heap.size<=b) :
  StI s0 n { fr:=(σ.put dst r).fr,hp:=σ.hp++[ow] } (a.put dst v) s' (λi=>if i=σ.hp.length then u else ρ i):=by
 refine h.newG hl hd hr ho (λb hx i o hi ho'=>?_) λb hx=>.inr (Nat.le_trans h.le.size (hb b hx))
 have:=(h.hp i o hi).blk_lt0 ho'
 exact absurd (hb b hx) (by omega)
end
section
variable {P:Program} {s0:An} {n:Nat} {ops:Array Oper} {Q:Exit->AS->Prop} {rest:List Oper} {o:Oper} {σ:AS}
theorem GJ(t:TypeId)(v:Value)(w:World):(newVar t v).run P w = .ok ⟨w.heap.size,0,none⟩ (w.alloc (.cells v.cells t)):=rfl
def AS.new(σ:AS)(dst:Option Tmp)(r:AV)(ow:Ow):AS:={ fr:=(σ.put dst r).fr,hp:=σ.hp++[ow] }
def Xu(l:List Value):List AV:=l.map λu=>.d (ex u)
def Gg(l:List Value):Bool:=l.all (·.oneCell')
theorem AWl.alloc{T:TypeId}{d:TypeDesc}{m b:Nat}{z:Value}(hop:o.op = .alloc T)(hg:o.guard=none)(ht:Tab P T d m b z)(hT:T≠108)(h1:Gg z.cells.toList=true)(hd:UH o.dst n=true)(h:AWl P s0 n ops Q rest (σ.new o.dst (.ptr σ.hp.length 0) (.var T (Xu z.cells.toList)))):AWl P s0 n ops Q (o::rest) σ:=by
 refine AWl.step hg λs ρ a hst K hK=>?_
 have hrun:(execOp a.eval o).run P s.w = .ok (.value (.pointer (some ⟨s.w.heap.size,0,none⟩))) (s.w.alloc (.cells z.cells T)):=by
  simp [execOp,hop,Instr.alloc,ht.run_zero,GJ]
 unfold Oper.wp
 rw [hrun]
 refine hK _ _ _ h ⟨s.mk' z.cells T 0,_,rfl,hst.new (s.le_mk' z.cells T 0 hT) (IM hd) (u:=.pointer (some ⟨s.w.heap.size,0,none⟩)) ⟨by omega,s.w.heap.size,by simp,rfl⟩ ?_ λb hb=>by cases hb;exact Nat.le_refl _⟩
 refine ⟨s.w.heap.size,z.cells,by simp,Nat.zero_le _,heap_alloc_new s.w _,by simp [Xu],hT,λk hk=>absurd (hst.ok.lt _ _ hk) (Nat.lt_irrefl _),λk av hk=>?_⟩
 unfold Xu at hk
 rw [List.getElem?_map] at hk
 cases hz:z.cells.toList[k]? with
 | none=>rw [hz] at hk;cases hk
 | some u=>
  rw [hz] at hk
  cases hk
  exact ⟨u,by simpa using hz,List.all_eq_true.1 h1 u (List.mem_of_getElem? hz),rfl⟩
theorem AWl.box{T:TypeId}{x:Operand}{ds:List D}(hop:o.op = .box T x)(hg:o.guard=none)(hx:σ.arg x = .d (BF ds))(hT:T≠108)(hd:UH o.dst n=true)(h:AWl P s0 n ops Q rest (σ.new o.dst (.ptr σ.hp.length 0) (.var T (ds.map .d)))):AWl P s0 n ops Q (o::rest) σ:=by
 refine AWl.step hg λs ρ a hst K hK=>?_
 have h1:=hst.arg x
 rw [hx] at h1
 obtain ⟨cs,e1,h2,h3⟩:=h1
 have hrun:(execOp a.eval o).run P s.w = .ok (.value (.pointer (some ⟨s.w.heap.size,0,none⟩))) (s.w.alloc (.cells cs T)):=by
  simp only [execOp,hop,e1,Instr.box,Sem.run_bind,GJ,Result.andThen_ok,Sem.run_pure]
  rfl
 unfold Oper.wp
 rw [hrun]
 have hle:=s.le_mk' cs T 0 hT
 refine hK _ _ _ h ⟨s.mk' cs T 0,_,rfl,hst.new hle (IM hd) (u:=.pointer (some ⟨s.w.heap.size,0,none⟩)) ⟨by omega,s.w.heap.size,by simp,rfl⟩ ?_ λb hb=>by cases hb;exact Nat.le_refl _⟩
 refine ⟨s.w.heap.size,cs,by simp,Nat.zero_le _,heap_alloc_new s.w _,by simp [h2],hT,λk hk=>absurd (hst.ok.lt _ _ hk) (Nat.lt_irrefl _),λk av hk=>?_⟩
 rw [List.getElem?_map] at hk
 cases hz:ds[k]? with
 | none=>rw [hz] at hk;cases hk
 | some x=>
  rw [hz] at hk
  cases hk
  have hkl:k<ds.length:=(List.getElem?_eq_some_iff.1 hz).1
  obtain ⟨u,h4,h5,h6⟩:=h3 k hkl
  refine ⟨u,h4,h5,?_⟩
  have:Cj ds k=x:=by simp [Cj,hz]
  rw [this] at h6
  exact x.st h6 hle.chg
end
def Ow.mapA(f:AV->AV):Ow->Ow
 | .var T cells=>.var T (cells.map f)
 | .pin l=>.pin (l.map λp=>(p.1,f p.2))
 | o=>o
theorem ZR{s:GS}{v:Value}{f:AV->AV}{o:Ow}{b:Nat}:OwB s v (o.mapA f) b↔OwB s v o b:=by cases o<;>exact Iff.rfl
theorem QU(f:AV->AV):∀(l:List (Nat×AV)) (t:Nat),CA (l.map λp=>(p.1,f p.2)) t=(CA l t).map f
 | [],t=>rfl
 | p::r,t=>by
  rw [List.map_cons]
  obtain ⟨a,av⟩:=p
  rw [DL,DL,QU f r t]
  split<;>rfl
section
variable {s0:An} {n:Nat} {σ:AS} {a:Act} {s:GS} {ρ:Nat->Value}
theorem StI.upd(h:StI s0 n σ a s ρ){s':GS}(hle:GS.LeX s0.mine s0.g s')(hok:s'.Ok)(hc:GS.Chg s s'){id:Nat}{o o':Ow}{ρ':Nat->Value}{f:AV->AV}(hi:σ.hp[id]? = some o)
  (hfar:∀b,b<s.w.heap.size->¬OwB s (ρ id) o b->s'.w.heap[b]? = s.w.heap[b]? /\ ∀k,s'.S b k↔s.S b k) (hρ:∀j,j≠id->ρ' j=ρ j)
  (hnew:OwR 0 σ.hp.length ρ' s' id o') (hblk:∀b,OwB s' (ρ' id) o' b->OwB s (ρ id) o b\/s.w.heap.size<=b) (hf:∀av v,AVr σ.hp.length ρ s av v->AVr σ.hp.length ρ' s' (f av) v) :
  StI s0 n { fr:=σ.fr.map λp=>(p.1,f p.2),hp:=(σ.hp.map (Ow.mapA f)).set id o' } a s' ρ':=by
 have hlen:((σ.hp.map (Ow.mapA f)).set id o').length=σ.hp.length:=by simp
 have hget:∀i x,((σ.hp.map (Ow.mapA f)).set id o')[i]? = some x->(i=id/\x=o')\/(i≠id/\∃y,σ.hp[i]? = some y/\x=y.mapA f):=λi x hx=>by
  rw [List.getElem?_set] at hx
  split at hx
  .rename_i e
   split at hx
   .cases hx;exact .inl ⟨e.symm,rfl⟩
   .cases hx
  .rename_i e
   rw [List.getElem?_map] at hx
   cases hy:σ.hp[i]? with
   | none=>rw [hy] at hx;cases hx
   | some y=>rw [hy] at hx;cases hx;exact .inr ⟨λe'=>e e'.symm,y,rfl,rfl⟩
 have hother:∀i y,i≠id->σ.hp[i]? = some y->∀b,OwB s (ρ i) y b->b<s.w.heap.size/\¬OwB s (ρ id) o b:=λi y hne hy b hb=>⟨(h.hp i y hy).blk_lt0 hb,h.sep i id y o hne hy hi b hb⟩
 have hst:∀i y,i≠id->σ.hp[i]? = some y->∀b,OwB s (ρ i) y b->s'.w.heap[b]? = s.w.heap[b]? /\ ∀k,s'.S b k↔s.S b k:=λi y hne hy b hb=>hfar b (hother i y hne hy b hb).1 (hother i y hne hy b hb).2
 have hback:∀i y,i≠id->σ.hp[i]? = some y->∀b,OwB s' (ρ' i) (y.mapA f) b->OwB s (ρ i) y b:=λi y hne hy b hb=>OwB.keep (h.hp i y hy) hc (hst i y hne hy) (by rw [<-hρ i hne];exact ZR.1 hb)
 refine ⟨hle,hok,λt av ht=>?_,h.sz,h.df,λi x hx=>?_,λi j x y hij hx hy b hb1 hb2=>?_,λi x b hx hb=>?_⟩
 .show AVr ((σ.hp.map (Ow.mapA f)).set id o').length ρ' s' av _
  rw [hlen]
  rw [QU] at ht
  cases hl:CA σ.fr t with
  | none=>rw [hl] at ht;cases ht
  | some av0=>
   rw [hl] at ht
   cases ht
   exact hf _ _ (h.fr t av0 hl)
 .show OwR 0 ((σ.hp.map (Ow.mapA f)).set id o').length ρ' s' i x
  rw [hlen]
  rcases hget i x hx with ⟨rfl,rfl⟩ | ⟨hne,y,hy,rfl⟩
  .exact hnew
  .have hold:=h.hp i y hy
   cases y with
   | dead=>trivial
   | var T cells=>
    obtain ⟨b,cs,h1,h2,h3,h4,h5,h6,h7⟩:=hold
    obtain ⟨e3,e4⟩:=hst i _ hne hy b (show DZ (ρ i)=some b by rw [h1];rfl)
    refine ⟨b,cs,(hρ i hne).trans h1,h2,e3.trans h3,by simpa using h4,h5,λk hk=>h6 k ((e4 k).1 hk),λk av hk=>?_⟩
    rw [List.getElem?_map] at hk
    cases hk0:cells[k]? with
    | none=>rw [hk0] at hk;cases hk
    | some av0=>
     rw [hk0] at hk
     cases hk
     obtain ⟨u,h8,h9,h10⟩:=h7 k av0 hk0
     exact ⟨u,h8,h9,hf _ _ h10⟩
   | row T sz rows=>
    have:=hold.keep hc (hst i _ hne hy)
    unfold OwR at this
    show OwR 0 σ.hp.length ρ' s' i (.row T sz rows)
    unfold OwR
    rw [hρ i hne]
    exact this
   | obj O=>
    have:=hold.keep hc (hst i _ hne hy)
    show O.rel s' (ρ' i)
    rw [hρ i hne]
    exact this
   | pin l=>
    intro p hp
    obtain ⟨q,hq,rfl⟩:=List.mem_map.1 hp
    exact hf _ _ (hold q hq)
 .rcases hget i x hx with ⟨rfl,rfl⟩ | ⟨hne,x0,hx0,rfl⟩<;>rcases hget j y hy with ⟨rfl,rfl⟩ | ⟨hne',y0,hy0,rfl⟩
  .exact hij rfl
  .obtain ⟨e1,e2⟩:=hother j _ hne' hy0 b (hback j _ hne' hy0 b hb2)
   rcases hblk b hb1 with h1 | h1
   .exact e2 h1
   .omega
  .obtain ⟨e1,e2⟩:=hother i _ hne hx0 b (hback i _ hne hx0 b hb1)
   rcases hblk b hb2 with h1 | h1
   .exact e2 h1
   .omega
  .exact h.sep i j x0 y0 hij hx0 hy0 b (hback i _ hne hx0 b hb1) (hback j _ hne' hy0 b hb2)
 .rcases hget i x hx with ⟨rfl,rfl⟩ | ⟨hne,x0,hx0,rfl⟩
  .rcases hblk b hb with h1 | h1
   .exact h.own _ o b hi h1
   .exact .inr (Nat.le_trans h.le.size h1)
  .exact h.own i x0 b hx0 (hback i _ hne hx0 b hb)
end
theorem Hz(l:List (Nat×AV)):(l.map λp=>(p.1,(λx=>x) p.2))=l:=by simp
theorem Fl:∀l:List Ow,l.map (Ow.mapA λx=>x)=l
 | []=>rfl
 | o::l=>by rw [List.map_cons,Fl l];cases o<;>simp [Ow.mapA]
def One(hp:List Ow)(av:AV):Prop:=∀base ρ s v,HpOk base ρ s hp->AVr hp.length ρ s av v->v.oneCell'=true
theorem Ij{hp:List Ow}{u:Value}(h:u.oneCell'=true):One hp (.d (ex u)):=λ_ _ _ v _ hv=>by have:v=u:=hv;rw [this];exact h
theorem One.sl{hp:List Ow}{T sz:Nat}{rows:List (List D)}:One hp (.d (slD T sz rows)):=λ_ _ _ v _ ⟨A,c,hv,_⟩=>by rw [hv];rfl
theorem MY{hp:List Ow}{T:Nat}{ds:List D}:One hp (.d (Is T ds)):=λ_ _ _ v _ ⟨A,c,hv,_⟩=>by rw [hv];rfl
theorem One.ptr{hp:List Ow}{i off:Nat}:One hp (.ptr i off):=λ_ _ _ v _ ⟨_,b,_,hv⟩=>by rw [hv];rfl
theorem One.own{hp:List Ow}{i T sz:Nat}{rows:List (List D)}(h:hp[i]? = some (.row T sz rows)):One hp (.own i):=λbase ρ s v hh ⟨_,hv⟩=>by
 obtain ⟨xs,⟨_,h2⟩,_⟩:=hh i _ h
 rcases h2 with ⟨e1,_⟩ | ⟨g,cap,cur,e1,_⟩
 .rw [hv,e1];rfl
 .rw [hv,e1];rfl
theorem Zq{w:World}{p:Addr}{u:Value}{b:Nat}{t:TypeId}(h:Ty (w.setCell p u) b t):Ty w b t:=by
 obtain ⟨cs,fz,h⟩:=h
 by_cases hb:b=p.block
 .simp only [World.setCell,Array.getElem?_modify,hb,if_true] at h
  cases ho:w.heap[p.block]? with
  | none=>rw [ho] at h;cases h
  | some o=>
   rw [ho] at h
   cases o with
   | cells c e f=>
    simp at h
    exact ⟨c,f,by rw [hb,ho];rw [h.2.1]⟩
   | _=>simp at h
 .rw [Below.heap_setCell _ _ _ _ hb] at h
  exact ⟨cs,fz,h⟩
theorem IV{s s':GS}(h:s.Ok)(hS:∀b k,s'.S b k->s.S b k)(hsz:s.w.heap.size<=s'.w.heap.size)(hS':∀b k,s.S b k->s'.S b k)(ht:∀b,Ty s'.w b 108->Ty s.w b 108):s'.Ok:=
 ⟨λb k hb=>Nat.lt_of_lt_of_le (h.lt b k (hS b k hb)) hsz,λb k hb=>hS' b k (h.safe b k (ht b hb))⟩
section
variable {P:Program} {s0:An} {n:Nat} {ops:Array Oper} {Q:Exit->AS->Prop} {rest:List Oper} {o:Oper} {σ:AS}
theorem TN{T T0:TypeId}{d:TypeDesc}{b id off:Nat}{z:Value}{x y:Operand}{cells:List AV}{av:AV}(hop:o.op = .store T x y)(hg:o.guard=none)(hds:o.dst=none)(hx:σ.arg x = .ptr id off)(hy:σ.arg y=av)(hh:σ.hp[id]? = some (.var T0 cells))(ht:Tab P T d 1 b z)(h1:One σ.hp av)(hoff:off<cells.length)(h:AWl P s0 n ops Q rest { fr:=σ.fr,hp:=σ.hp.set id (.var T0 (cells.set off av)) }):AWl P s0 n ops Q (o::rest) σ:=by
 refine AWl.step hg λs ρ a hst K hK=>?_
 have hx':=hst.arg x
 have hy':=hst.arg y
 rw [hx] at hx';rw [hy] at hy'
 obtain ⟨hid,g,hr1,e1⟩:=hx'
 obtain ⟨g',cs,h2,h3,h4,h5,h6,h7,h8⟩:=hst.hp id _ hh
 rw [hr1] at h2
 cases h2
 have hv1:=h1 _ _ _ _ hst.hp hy'
 have hcell:s.w.cell? ⟨g,off,none⟩=some (cs[off]'(by omega)):=(BK h4).trans (Array.getElem?_eq_getElem _)
 have hfz:s.w.frozen? ⟨g,off,none⟩=false:=Blk.frozen h4 off
 have hvc:(a.eval y).cells=#[a.eval y]:=by cases hv:a.eval y<;>first | rfl | (rw [hv] at hv1;cases hv1)
 have hrun:(execOp a.eval o).run P s.w = .ok .skip (s.w.setCell ⟨g,off,none⟩ (a.eval y)):=by
  have h9:(store ⟨g,off,none⟩ (a.eval y)).run P s.w = .ok () (s.w.setCell ⟨g,off,none⟩ (a.eval y)):=by
   cases hv:a.eval y<;>first | (rw [hv] at hv1;cases hv1;done) | simp [store,Sem.run,hcell,hfz]
  simp [execOp,hop,e1,Instr.storeAt,Instr.sureAddr,storeVar,hvc,ht.run_size,storeCells,Addr.add_lit,h9]
 unfold Oper.wp
 rw [hrun]
 have hfar:∀b,b≠g->(s.w.setCell ⟨g,off,none⟩ (a.eval y)).heap[b]? = s.w.heap[b]?:=λb hb=>Below.heap_setCell _ _ _ _ hb
 have hnew:(s.w.setCell ⟨g,off,none⟩ (a.eval y)).heap[g]? = some (.cells (cs.setIfInBounds off (a.eval y)) T0 (0,0)):=Blk.set h4 off _
 have hok:GS.Ok { s with w:=s.w.setCell ⟨g,off,none⟩ (a.eval y) }:=IV hst.ok (λ_ _ h=>h) (by show _<=(s.w.setCell _ _).heap.size;simp [World.setCell]) (λ_ _ h=>h) λb hb=>Zq hb
 have hc : GS.Chg s { s with w := s.w.setCell ⟨g, off, none⟩ (a.eval y) } := ⟨by show _ ≤ (s.w.setCell _ _).heap.size; simp [World.setCell], fun _ _ h => h, fun b c T fz hb => by
  by_cases e:b=g
  .subst e
   rw [h4] at hb
   cases hb
   exact ⟨_,_,hnew,λk hk=>absurd hk (h7 k)⟩
  .exact ⟨c,fz,(hfar b e).trans hb,λ_ _=>rfl⟩⟩
 have hst' := hst.upd (s' := { s with w := s.w.setCell ⟨g, off, none⟩ (a.eval y) }) (ρ' := ρ) (f := fun x => x) (o' := .var T0 (cells.set off av)) (hst.le.turn (hst.own id _ g hh (show DZ (ρ id) = some g by rw [hr1]; rfl)) rfl rfl rfl (fun b _ hb => ⟨hfar b hb, fun _ h => h⟩) hc (fun _ _ => rfl) fun _ => hok) hok hc hh (fun b _ hb => ⟨hfar b fun e => hb (show DZ (ρ id) = some b by rw [hr1, e]; rfl), fun _ => Iff.rfl⟩) (fun _ _ => rfl)
  ⟨g, _, hr1, h3, hnew, by simpa using h5, h6, h7, fun k av' hk => by
   rw [List.getElem?_set] at hk
   split at hk
   .rename_i e
    subst e
    obtain rfl:av'=av:=by first | exact (Option.some.inj hk).symm | (rw [if_pos hoff] at hk;exact (Option.some.inj hk).symm)
    exact ⟨_,by simp [h5,hoff],hv1,hy'.chg hc⟩
   .rename_i e
    obtain ⟨u,h10,h11,h12⟩:=h8 k av' hk
    exact ⟨u,by rw [Array.getElem?_setIfInBounds_ne e];exact h10,h11,h12.chg hc⟩⟩ (λb hb=>.inl hb) λav v h=>h.chg hc
 rw [Hz,Fl] at hst'
 exact hK _ _ _ h (by rw [hds];exact ⟨_,ρ,rfl,hst'⟩)
def IA(cells:List AV)(off:Nat)(ds:List AV):List AV:=cells.take off++(ds++cells.drop (off+ds.length))
theorem So{cells:List AV}{off:Nat}{ds:List AV}(h:off+ds.length<=cells.length)(k:Nat):(IA cells off ds)[k]? = if off<=k/\k<off+ds.length then ds[k-off]? else cells[k]?:=by
 unfold IA
 rw [List.getElem?_append]
 have h1:(cells.take off).length=off:=by simp;omega
 rw [h1]
 split
 .rename_i hlt
  rw [if_neg (by omega),List.getElem?_take,if_pos hlt]
 .rename_i hge
  rw [List.getElem?_append]
  split
  .rename_i hlt
   rw [if_pos (by omega)]
  .rename_i hge2
   rw [if_neg (by omega),List.getElem?_drop]
   congr 1
   omega
theorem TM{T T0:TypeId}{d:TypeDesc}{b id off m:Nat}{z:Value}{x y:Operand}{cells:List AV}{ds:List D}(hop:o.op = .store T x y)(hg:o.guard=none)(hds:o.dst=none)(hx:σ.arg x = .ptr id off)(hy:σ.arg y = .d (BF ds))(hh:σ.hp[id]? = some (.var T0 cells))(ht:Tab P T d m b z)(hm:ds.length=m)(hoff:off+m<=cells.length)(h:AWl P s0 n ops Q rest { fr:=σ.fr,hp:=σ.hp.set id (.var T0 (IA cells off (ds.map .d))) }):AWl P s0 n ops Q (o::rest) σ:=by
 refine AWl.step hg λs ρ a hst K hK=>?_
 have hx':=hst.arg x
 have hy':=hst.arg y
 rw [hx] at hx';rw [hy] at hy'
 obtain ⟨hid,g,hr1,e1⟩:=hx'
 obtain ⟨g',cs,h2,h3,h4,h5,h6,h7,h8⟩:=hst.hp id _ hh
 rw [hr1] at h2
 cases h2
 obtain ⟨vs,e2,hv1,hv2⟩:=hy'
 have hvone:∀v∈vs.toList,v.oneCell'=true:=λv hv=>by
  obtain ⟨k,hk,rfl⟩:=List.getElem_of_mem hv
  simp at hk
  obtain ⟨u,h9,h10,_⟩:=hv2 k (by omega)
  rw [Array.getElem?_eq_getElem hk] at h9
  cases h9
  simpa using h10
 have hvl:vs.toList.length=m:=by simp [hv1,hm]
 have hst1:=run_storeCells_at P g off T0 vs.toList 0 cs s.w h4 (by omega) hvone
 simp only [Nat.add_zero] at hst1
 obtain ⟨W,hW⟩:∃W,W=s.w.setRow g (cs.toList.take off++vs.toList++cs.toList.drop (off+vs.toList.length)).toArray:=⟨_,rfl⟩
 rw [<-hW] at hst1
 have hrun:(execOp a.eval o).run P s.w = .ok .skip W:=by
  simp [execOp,hop,e1,e2,Instr.storeAt,Instr.sureAddr,storeVar,Value.cells,hv1,hm,ht.run_size,hst1]
 unfold Oper.wp
 rw [hrun]
 have hfar:∀b,b≠g->W.heap[b]? = s.w.heap[b]?:=λb hb=>by rw [hW];exact setRow_other s.w g b _ (λe=>hb e)
 have hnew:W.heap[g]? = some (.cells (cs.toList.take off++vs.toList++cs.toList.drop (off+vs.toList.length)).toArray T0 (0,0)):=by rw [hW];exact setRow_heap s.w g cs _ T0 _ h4
 have hsz:W.heap.size=s.w.heap.size:=by rw [hW];simp [World.setRow]
 have hok : GS.Ok { s with w := W } := IV hst.ok (fun _ _ h => h) (by show _ ≤ W.heap.size; omega) (fun _ _ h => h) fun b ⟨c, fz, hb⟩ => by
  by_cases e:b=g
  .subst e
   have hb:W.heap[b]? = _:=hb
   rw [hnew] at hb
   cases hb
   exact absurd rfl h6
  .exact ⟨c,fz,(hfar b e).symm.trans hb⟩
 have hc : GS.Chg s { s with w := W } := ⟨by show _ ≤ W.heap.size; omega, fun _ _ h => h, fun b c T fz hb => by
  by_cases e:b=g
  .subst e
   rw [h4] at hb
   cases hb
   exact ⟨_,_,hnew,λk hk=>absurd hk (h7 k)⟩
  .exact ⟨c,fz,(hfar b e).trans hb,λ_ _=>rfl⟩⟩
 have hml:off+(ds.map AV.d).length<=cells.length:=by simp;omega
 have hst' := hst.upd (s' := { s with w := W }) (ρ' := ρ) (f := fun x => x) (o' := .var T0 (IA cells off (ds.map .d))) (hst.le.turn (hst.own id _ g hh (show DZ (ρ id) = some g by rw [hr1]; rfl)) (by rw [hW]; rfl) (by rw [hW]; rfl) (by rw [hW]; rfl) (fun b _ hb => ⟨hfar b hb, fun _ h => h⟩) hc (fun _ _ => rfl) fun _ => hok) hok hc hh (fun b _ hb => ⟨hfar b fun e => hb (show DZ (ρ id) = some b by rw [hr1, e]; rfl), fun _ => Iff.rfl⟩) (fun _ _ => rfl)
  ⟨g, _, hr1, h3, hnew, by simp [IA]; omega, h6, h7, fun k av' hk => by
   rw [So hml] at hk
   have hget:(cs.toList.take off++vs.toList++cs.toList.drop (off+vs.toList.length)).toArray[k]? = if off<=k/\k<off+m then vs[k-off]? else cs[k]?:=by
    rw [List.getElem?_toArray,List.append_assoc,List.getElem?_append]
    have hl1:(cs.toList.take off).length=off:=by simp;omega
    rw [hl1]
    split
    .rename_i hlt
     rw [if_neg (by omega),List.getElem?_take,if_pos hlt]
     simp
    .rename_i hge
     rw [List.getElem?_append]
     split
     .rename_i hlt
      rw [if_pos (by omega)]
      simp
     .rename_i hge2
      rw [if_neg (by omega),List.getElem?_drop]
      simp
      congr 1
      omega
   rw [hget]
   rw [List.length_map,hm] at hk
   split at hk
   .rename_i hin
    rw [if_pos hin]
    rw [List.getElem?_map] at hk
    cases hdk:ds[k-off]? with
    | none=>rw [hdk] at hk;cases hk
    | some x=>
     rw [hdk] at hk
     cases hk
     obtain ⟨u,h9,h10,h11⟩:=hv2 (k-off) (by omega)
     refine ⟨u,h9,h10,?_⟩
     have:Cj ds (k-off)=x:=by simp [Cj,hdk]
     rw [this] at h11
     exact x.st h11 hc
   .rename_i hin
    rw [if_neg hin]
    obtain ⟨u,h10,h11,h12⟩:=h8 k av' hk
    exact ⟨u,h10,h11,h12.chg hc⟩⟩ (λb hb=>.inl hb) λav v h=>h.chg hc
 rw [Hz,Fl] at hst'
 exact hK _ _ _ h (by rw [hds];exact ⟨_,ρ,rfl,hst'⟩)
end
theorem Kj{P:Program}{s0:An}{s:GS}(hle:GS.LeX s0.mine s0.g s)(hok:s.Ok){t ty T sz bytes:Nat}{z:Value}{d:TypeDesc}(ht:P.underlying t=some (.slice T))(hT:Tab P T d sz bytes z)(hzs:z.cells.size=sz)(hT32:T≠108)(h0:0<sz)
  {v:Value} {n:Nat} {xs:List Value} (hown:s.w.ownsRow 0 T sz v n xs) (hmine:∀b,DZ v=some b->s0.mine b\/s0.g.w.heap.size<=b) (hS:∀b,DZ v=some b->∀k,s.S b k↔k<n*sz)
  (b o m c:Nat) (news:List Value) (hl:news.length=m*sz) (hm:0<m) (hnews:∀j u,news[j]? = some u->s.w.cell? ⟨b,o+j,none⟩=some u) (h1:∀u∈news,u.oneCell'=true) (hbytes:(n+m)*bytes<=140737488355328) (h63:n+m<=4611686018427387904) :
  ∃(v':Value) (s':GS),(Builtin.append_ #[t,t] ty #[v,.slice (some ⟨b,o,none⟩) m c]).run P s.w = .ok v' s'.w/\GS.LeX s0.mine s0.g s'/\s'.Ok/\GS.Chg s s'/\s'.w.ownsRow 0 T sz v' (n+m) (xs++news)/\(∀b,DZ v'=some b->∀k,s'.S b k↔k<(n+m)*sz) /\
   (∀b,b<s.w.heap.size->DZ v≠some b->s'.w.heap[b]? = s.w.heap[b]? /\ ∀k,s'.S b k↔s.S b k)/\(∀b,DZ v'=some b->DZ v=some b\/s.w.heap.size<=b):=by
 obtain ⟨i,hi,hz,hsize,hby⟩:=hT.info
 subst hsize
 subst hby
 have hnews':∀j u,news[j]? = some u->s.w.cell? ((⟨b,o,none⟩:Addr).add j)=some u:=λj u hj=>by rw [Addr.add_lit];exact hnews j u hj
 have hlen:(xs++news).length=(n+m)*i.size:=by rw [List.length_append,hown.1,hl,Nat.add_mul]
 have fresh:∀(cap:Nat) (arr:Array Value),n+m<=cap->cap<=maxLen->arr.size=cap*i.size->arr.toList.take ((n+m)*i.size)=xs++news->∃s':GS,s'.w=s.w.drew.alloc (.cells arr T)/\GS.LeX s0.mine s0.g s'/\s'.Ok/\GS.Chg s s'/\s'.w.ownsRow 0 T i.size (.slice (some ⟨s.w.heap.size,0,none⟩) (n+m) cap) (n+m) (xs++news) /\
   (∀k,s'.S s.w.heap.size k↔k<(n+m)*i.size)/\(∀b,b<s.w.heap.size->s'.w.heap[b]? = s.w.heap[b]? /\ ∀k,s'.S b k↔s.S b k):=by
  intro cap arr hc1 hc2 hc3 hc4
  have hE:Ext s.w (s.w.drew.alloc (.cells arr T)):=(Ext.refl _).drew.alloc _
  have hnew:(s.w.drew.alloc (.cells arr T)).heap[s.w.heap.size]? = some (.cells arr T (0,0)):=heap_alloc_new s.w.drew _
  have hsz:(s.w.drew.alloc (.cells arr T)).heap.size=s.w.heap.size+1:=Array.size_push ..
  have hlt:∀k,¬s.S s.w.heap.size k:=λk hk=>absurd (hok.lt _ _ hk) (Nat.lt_irrefl _)
  have hS':∀b k,b<s.w.heap.size->((s.S b k\/(b=s.w.heap.size/\k<(n+m)*i.size))↔s.S b k):=λb k hb=>⟨λh=>h.elim id λh=>absurd hb (by omega),.inl⟩
  have hok':GS.Ok ⟨λb k=>s.S b k\/(b=s.w.heap.size/\k<(n+m)*i.size),s.tag,s.w.drew.alloc (.cells arr T)⟩:=⟨λb k hb=>by
    show b<(s.w.drew.alloc (.cells arr T)).heap.size
    rcases hb with hb | ⟨hb,_⟩
    .have:=hok.lt _ _ hb;omega
    .omega,λb k ⟨cs,fz,hb⟩=>by
    have hb:(s.w.drew.alloc (.cells arr T)).heap[b]? = _:=hb
    have hbl:=AU hb
    by_cases e:b=s.w.heap.size
    .subst e
     rw [hnew] at hb
     cases hb
     exact absurd rfl hT32
    .exact .inl (hok.safe b k ⟨cs,fz,(hE.block (by omega)).symm.trans hb⟩)⟩
  refine ⟨⟨λb k=>s.S b k\/(b=s.w.heap.size/\k<(n+m)*i.size),s.tag,s.w.drew.alloc (.cells arr T)⟩,rfl,?_,hok',?_,?_,λk=>⟨λh=>h.elim (λh=>absurd h (hlt k)) λh=>h.2,λh=>.inr ⟨rfl,h⟩⟩,λb hb=>⟨hE.block hb,λk=>hS' b k hb⟩⟩
  .refine hle.trans ⟨hE,λ_ _ h=>.inl h,λb k hb h=>(hS' b k hb).1 h,λ_ _=>rfl,λ_=>hok'⟩
  .exact ⟨hE.size,λ_ _ h=>.inl h,λb cs T' fz hb=>⟨cs,fz,(hE.block (AU hb)).trans hb,λ_ _=>rfl⟩⟩
  .exact ⟨hlen,.inr ⟨_,cap,arr,rfl,Nat.zero_le _,hnew,hc1,hc2,hc3,hc4⟩⟩
 have h63':n+m<=maxLen:=by simp only [maxLen];omega
 have grown:∀old,old<n+m->∃s':GS,s'.w=s.w.drew.alloc (.cells (xs.toArray++news.toArray++Builtin.zeroCells z.cells (grownCap s.w (n+m) old T-(n+m))) T)/\GS.LeX s0.mine s0.g s'/\s'.Ok/\GS.Chg s s'/\s'.w.ownsRow 0 T i.size (.slice (some ⟨s.w.heap.size,0,none⟩) (n+m) (grownCap s.w (n+m) old T)) (n+m) (xs++news) /\
   (∀k,s'.S s.w.heap.size k↔k<(n+m)*i.size)/\(∀b,b<s.w.heap.size->s'.w.heap[b]? = s.w.heap[b]? /\ ∀k,s'.S b k↔s.S b k):=by
  intro old ho
  have hge:=grownCap_ge s.w (n+m) old T
  have hcm:grownCap s.w (n+m) old T<=maxLen:=grownCap_le_maxLen s.w (n+m) old T h63'
  refine fresh _ _ hge hcm ?_ ?_
  .simp only [Array.size_append,List.size_toArray,size_zeroCells,hzs,hown.1,hl,<-Nat.add_mul]
   congr 1
   omega
  .simp only [Array.toList_append,List.append_assoc]
   rw [<-List.append_assoc,<-hlen]
   exact List.take_left
 rcases hown.2 with ⟨rfl,rfl⟩ | ⟨g,cap,cur,rfl,hbg,hg,hnc,hcm,hcs,htake⟩
 .have hx:xs=[]:=List.eq_nil_of_length_eq_zero (by simpa using hown.1)
  subst hx
  have hr:=run_append_nil (P:=P) s.w t ty T i z ht hi hz ⟨b,o,none⟩ m c news hl hnews' hm (by omega) (by have hb:=hbytes;simp only [Nat.zero_add] at hb;omega)
  obtain ⟨s',e1,e2,e3,e4,e5,e6,e7⟩:=grown 0 (by omega)
  simp only [Nat.zero_add,List.nil_append,Array.empty_append] at e1 e5 e6 ⊢
  rw [<-e1] at hr
  exact ⟨_,s',hr,e2,e3,e4,e5,λb hb k=>by cases hb;exact e6 k,λb hb _=>e7 b hb,λb hb=>by cases hb;exact .inr (Nat.le_refl _)⟩
 .by_cases hroom:n+m<=cap
  .have hfit:n*i.size+news.length<=cur.size:=by rw [hl, hcs, <-Nat.add_mul]; exact Nat.mul_le_mul_right _ hroom
   have hr:=run_append_room (P:=P) s.w t ty T i ht hi g n cap cur hg ⟨b,o,none⟩ m c news hl hnews' h1 hroom hfit
   obtain ⟨W,hW⟩:∃W,W=s.w.setRow g (cur.toList.take (n*i.size)++news++cur.toList.drop (n*i.size+news.length)).toArray:=⟨_,rfl⟩
   rw [<-hW] at hr
   have hfar:∀b,b≠g->W.heap[b]? = s.w.heap[b]?:=λb hb=>by rw [hW];exact setRow_other s.w g b _ (λe=>hb e)
   have hnew:W.heap[g]? = some (.cells (cur.toList.take (n*i.size)++news++cur.toList.drop (n*i.size+news.length)).toArray T (0,0)):=by rw [hW];exact setRow_heap s.w g cur _ T _ hg
   have hsz:W.heap.size=s.w.heap.size:=by rw [hW];simp [World.setRow]
   have hgl:=AU hg
   have hSg:∀k,s.S g k↔k<n*i.size:=hS g rfl
   have hS':∀b k,b≠g->((s.S b k\/(b=g/\k<(n+m)*i.size))↔s.S b k):=λb k hb=>⟨λh=>h.elim id λh=>absurd h.1 hb,.inl⟩
   have hok':GS.Ok ⟨λb k=>s.S b k\/(b=g/\k<(n+m)*i.size),s.tag,W⟩:=⟨λb k hb=>by
     show b<W.heap.size
     rcases hb with hb | ⟨hb,_⟩
     .have:=hok.lt _ _ hb;omega
     .omega,λb k ⟨cs,fz,hb⟩=>by
     have hb:W.heap[b]? = _:=hb
     by_cases e:b=g
     .subst e
      rw [hnew] at hb
      cases hb
      exact absurd rfl hT32
     .exact .inl (hok.safe b k ⟨cs,fz,(hfar b e).symm.trans hb⟩)⟩
   have htk:∀k,k<n*i.size->(cur.toList.take (n*i.size)++news++cur.toList.drop (n*i.size+news.length)).toArray[k]? = cur[k]?:=λk hk=>by
    rw [List.getElem?_toArray,List.append_assoc,List.getElem?_append_left (by simp;omega),List.getElem?_take,if_pos hk]
    simp
   have hchg : GS.Chg s ⟨fun b k => s.S b k ∨ (b = g ∧ k < (n + m) * i.size), s.tag, W⟩ := ⟨by show _ ≤ W.heap.size; omega, fun _ _ h => .inl h, fun b cs T' fz hb => by
    by_cases e:b=g
    .subst e
     rw [hg] at hb
     cases hb
     exact ⟨_,_,hnew,λk hk=>htk k ((hSg k).1 hk)⟩
    .exact ⟨cs,fz,(hfar b e).trans hb,λ_ _=>rfl⟩⟩
   refine ⟨_,⟨λb k=>s.S b k\/(b=g/\k<(n+m)*i.size),s.tag,W⟩,hr,hle.turn (hmine g rfl) (by show W.os=_;rw [hW];rfl) (by show W.tape=_;rw [hW];rfl) (by show W.output=_;rw [hW];rfl) (λb _ hb=>⟨hfar b hb,λk h=>(hS' b k hb).1 h⟩) hchg (λ_ _=>rfl) λ_=>hok',hok',hchg,?_,?_,λb hb hv=>?_,λb hb=>.inl hb⟩
   .refine ⟨hlen,.inr ⟨g,cap,_,rfl,hbg,hnew,hroom,hcm,?_,?_⟩⟩
    .simp only [List.size_toArray,List.length_append,List.length_take,List.length_drop,Array.length_toList]
     omega
    .rw [htake,<-hlen]
     exact List.take_left
   .intro b hb k
    cases hb
    constructor
    .rintro (h | h)
     .have:=(hSg k).1 h
      have:n*i.size<=(n+m)*i.size:=Nat.mul_le_mul_right _ (by omega)
      omega
     .exact h.2
    .intro h
     exact .inr ⟨rfl,h⟩
   .have hne:b≠g:=λe=>hv (by rw [e]; rfl)
    exact ⟨hfar b hne,λk=>hS' b k hne⟩
  .have holds:∀j u,xs[j]? = some u->s.w.cell? ((⟨g,0,none⟩:Addr).add j)=some u:=hown.cells (g:=g) rfl
   have hr:=run_append_grow (P:=P) s.w t ty T i z ht hi hz ⟨g,0,none⟩ n cap xs hown.1 holds ⟨b,o,none⟩ m c news hl hnews' (by omega) (by omega) (growslice_fits (by omega) hbytes)
   obtain ⟨s',e1,e2,e3,e4,e5,e6,e7⟩:=grown cap (by omega)
   rw [<-e1] at hr
   exact ⟨_,s',hr,e2,e3,e4,e5,λb hb k=>by cases hb;exact e6 k,λb hb _=>e7 b hb,λb hb=>by cases hb;exact .inr (Nat.le_refl _)⟩
def down(id:Nat)(x:D):AV->AV
 | .own j=>bif Nat.beq j id then .d x else .own j
 | .fn f caps=>bif caps.contains id then .d Dp else .fn f caps
 | av=>av
theorem Qt(r1 r2:List (List D))(k:Nat):(r1++r2).getD k []=if k<r1.length then r1.getD k [] else r2.getD (k-r1.length) []:=by
 rw [List.getD_eq_getElem?_getD,List.getElem?_append]
 split<;>simp [List.getD_eq_getElem?_getD]
section
variable {P:Program} {s0:An} {n:Nat} {ops:Array Oper} {Q:Exit->AS->Prop} {rest:List Oper} {o:Oper} {σ:AS}
def AS.appd(σ:AS)(dst:Option Tmp)(id T sz:Nat)(rows r2:List (List D)):AS:=
 AS.put { fr:=σ.fr.map λp=>(p.1,down id (slD T sz rows) p.2),hp:=(σ.hp.map (Ow.mapA (down id (slD T sz rows)))).set id (.row T sz (rows++r2)) } dst (.own id)
theorem OU{s:GS}{T sz:Nat}{rows:List (List D)}{b o:Nat}(h:∀k,k<rows.length->(rows.getD k []).length=sz/\Lies s b (o+k*sz) T (rows.getD k [])):∃news:List Value,news.length=rows.length*sz/\(∀j u,news[j]? = some u->s.w.cell? ⟨b,o+j,none⟩=some u)/\(∀u∈news,u.oneCell'=true) /\
  ∀k j,k<rows.length->j<sz->∃u,news[k*sz+j]? = some u/\u.oneCell'=true/\(Cj (rows.getD k []) j).rel s u:=by
 have key:∀i,∃u,i<rows.length*sz->s.w.cell? ⟨b,o+i,none⟩=some u/\u.oneCell'=true/\(Cj (rows.getD (i/sz) []) (i%sz)).rel s u:=λi=>by
  by_cases hi:i<rows.length*sz
  .have hsz:0<sz:=Nat.pos_of_ne_zero λe=>by rw [e] at hi; simp at hi
   have hk:i/sz<rows.length:=(Nat.div_lt_iff_lt_mul hsz).2 hi
   have hj:i%sz<sz:=Nat.mod_lt _ hsz
   obtain ⟨h1,h2⟩:=h (i/sz) hk
   obtain ⟨u,h3,h4,h5⟩:=h2.cell (k:=i%sz) (by omega)
   refine ⟨u,λ_=>⟨?_,h4,h5⟩⟩
   rw [<-h3]
   have:=Nat.div_add_mod i sz
   rw [Nat.mul_comm] at this
   rw [Nat.add_assoc,this]
  .exact ⟨undef,λh=>absurd h hi⟩
 obtain ⟨f,hf⟩:∃f:Nat->Value,∀i,i<rows.length*sz->s.w.cell? ⟨b,o+i,none⟩=some (f i)/\(f i).oneCell'=true/\(Cj (rows.getD (i/sz) []) (i%sz)).rel s (f i):=⟨λi=>(key i).choose,λi hi=>(key i).choose_spec hi⟩
 refine ⟨(List.range (rows.length*sz)).map f,by simp,λj u hj=>?_,λu hu=>?_,λk j hk hj=>?_⟩
 .rw [List.getElem?_map] at hj
  by_cases hjl:j<rows.length*sz
  .rw [List.getElem?_range hjl] at hj
   cases hj
   exact (hf j hjl).1
  .rw [List.getElem?_eq_none (by simp; omega)] at hj
   cases hj
 .obtain ⟨i,hi,rfl⟩:=List.mem_map.1 hu
  exact (hf i (List.mem_range.1 hi)).2.1
 .have hlt:k*sz+j<rows.length*sz:=by
   have:(k+1)*sz<=rows.length*sz:=Nat.mul_le_mul_right sz hk
   rw [Nat.succ_mul] at this
   omega
  refine ⟨f (k*sz+j),by rw [List.getElem?_map,List.getElem?_range hlt];rfl,(hf _ hlt).2.1,?_⟩
  have:=(hf _ hlt).2.2
  have e1:(k*sz+j)/sz=k:=by
   rw [Nat.mul_comm,Nat.mul_add_div (by omega),Nat.div_eq_of_lt hj];omega
  have e2:(k*sz+j)%sz=j:=by
   rw [Nat.mul_comm,Nat.mul_add_mod,Nat.mod_eq_of_lt hj]
  rwa [e1,e2] at this
theorem AWl.append{x y:Operand}{t T T2 sz bytes id m b:Nat}{z z':Value}{d:TypeDesc}{rows r2:List (List D)}(hop:o.op = .call { callee:=.builtin .append,args:=#[x,y],argTypes:=#[t,t] })(hg:o.guard=none)(hx:σ.arg x = .own id)(hy:Ew σ.hp (σ.arg y)=some (slD T2 sz r2))(hh:σ.hp[id]? = some (.row T sz rows))(ht:Tab P t (.slice T) m b z')(hT:Tab P T d sz bytes z)(hzs:z.cells.size=sz)(hd:UH o.dst n=true)(hbytes:(rows.length+r2.length)*bytes<=140737488355328)(h63:rows.length+r2.length<=4611686018427387904)(h:AWl P s0 n ops Q rest (σ.appd o.dst id T sz rows r2)):AWl P s0 n ops Q (o::rest) σ:=by
 refine AWl.step hg λs ρ a hst K hK=>?_
 have hx':=hst.arg x
 rw [hx] at hx'
 obtain ⟨hid,e1⟩:=hx'
 obtain ⟨xs,h2,h3,h4,h5,h6⟩:=hst.hp id _ hh
 have hold:(slD T sz rows).rel s (ρ id):=CQ (av:=.own id) hst.hp ⟨hid,rfl⟩ (by simp [Ew,hh])
 obtain ⟨A,c,e2,h7,h8,h9⟩:=CQ hst.hp (hst.arg y) hy
 have fin:∀(v':Value) (s':GS) (xs':List Value),(execOp a.eval o).run P s.w = .ok (.value v') s'.w->GS.LeX s0.mine s0.g s'->s'.Ok->GS.Chg s s'->s'.w.ownsRow 0 T sz v' (rows.length+r2.length) xs'->(∀b,DZ v'=some b->∀k,s'.S b k↔k<(rows.length+r2.length)*sz) ->
   (∀b,b<s.w.heap.size->DZ (ρ id)≠some b->s'.w.heap[b]? = s.w.heap[b]? /\ ∀k,s'.S b k↔s.S b k)->(∀b,DZ v'=some b->DZ (ρ id)=some b\/s.w.heap.size<=b) ->
   (∀k,k<(rows++r2).length->((rows++r2).getD k []).length=sz/\∀j,j<sz->∃u,xs'[k*sz+j]? = some u/\u.oneCell'=true/\(Cj ((rows++r2).getD k []) j).rel s' u)->o.wp P a s.w K (IH s0 n Q):=by
  intro v' s' xs' hrun q1 q2 q3 q4 q5 q6 q7 q8
  unfold Oper.wp
  rw [hrun]
  have hl:(rows++r2).length=rows.length+r2.length:=List.length_append
  have hst':=hst.upd (s':=s') (o':=.row T sz (rows++r2)) (ρ':=λi=>if i=id then v' else ρ i) (f:=down id (slD T sz rows)) q1 q2 q3 hh q6 (λj hj=>if_neg hj)
   ⟨xs', by simp only [if_pos]; rw [hl]; exact q4, h3, h4, fun b hb k => by simp only [if_pos] at hb; rw [hl]; exact q5 b hb k, q8⟩ (fun b hb => by replace hb : DZ (if id = id then v' else ρ id) = some b := hb; rw [if_pos rfl] at hb; exact q7 b hb) fun av v hav => by
    cases av with
    | d x=>exact x.st hav q3
    | ptr i off=>
     obtain ⟨p1,bb,p2,p3⟩:=hav
     refine ⟨p1,bb,?_,p3⟩
     show (if i=id then v' else ρ i)=_
     by_cases e:i=id
     .exfalso
      subst e
      rcases h2.2 with ⟨w1,_⟩ | ⟨g,cap,cur,w1,_⟩<;>rw [w1] at p2<;>cases p2
     .rw [if_neg e];exact p2
    | own j=>
     obtain ⟨p1,p2⟩:=hav
     show AVr σ.hp.length _ s' (bif Nat.beq j id then .d (slD T sz rows) else .own j) v
     cases hb:Nat.beq j id with
     | true=>
      have e:j=id:=Nat.eq_of_beq_eq_true hb
      subst e
      rw [p2]
      exact (slD T sz rows).st hold q3
     | false=>
      have e:j≠id:=Nat.ne_of_beq_eq_false hb
      exact ⟨p1,p2.trans (if_neg e).symm⟩
    | fn f caps=>
     obtain ⟨p1,p2⟩:=hav
     show AVr σ.hp.length _ s' (bif caps.contains id then .d Dp else .fn f caps) v
     cases hb:caps.contains id with
     | true=>trivial
     | false=>
      have hn:id∉caps:=λh=>by rw [List.contains_iff_mem.2 h] at hb;cases hb
      exact ⟨p1,by rw [p2,List.map_congr_left λi hi=>(if_neg λe=>hn (by rw [<-e];exact hi):(if i=id then v' else ρ i)=ρ i)]⟩
  have hfin:=hst'.put (GS.Le.refl s') (IM hd) (v:=v') (r:=.own id) ⟨by simpa using hid,by simp⟩
  exact hK _ _ _ h ⟨s',_,rfl,hfin⟩
 have hexec:∀v' w',(Builtin.append_ #[t,t] o.type #[ρ id,a.eval y]).run P s.w = .ok v' w'->(execOp a.eval o).run P s.w = .ok (.value v') w':=λv' w' hr=>by
  simp only [execOp,hop,resolve,invoke,builtin,Sem.run_bind,Sem.run_pure,Result.andThen_ok,List.map_toArray,List.map_cons,List.map_nil,e1,hr]
 rcases Nat.eq_zero_or_pos r2.length with h0 | h0
 .obtain rfl:r2=[]:=List.eq_nil_of_length_eq_zero h0
  obtain ⟨i,hi,hz,hsize,hby⟩:=hT.info
  have hform:∃B N C,ρ id = .slice B N C/\N<=C:=by
   rcases h2.2 with ⟨w1,_⟩ | ⟨g,cap,cur,w1,_,_,w2,_⟩
   .exact ⟨none,0,0,w1,Nat.le_refl _⟩
   .exact ⟨_,_,_,w1,w2⟩
  obtain ⟨B,N,C,w1,w2⟩:=hform
  have hr:(Builtin.append_ #[t,t] o.type #[ρ id,a.eval y]).run P s.w = .ok (ρ id) s.w:=by
   rw [e2,w1]
   cases A with
   | none=>exact run_append_nothing s.w _ _ _ _ i ht.und hi _ _ _ w2 _ (Src.ofNil s.w ht.und c)
   | some ad=>exact run_append_nothing s.w _ _ _ _ i ht.und hi _ _ _ w2 _ (Src.ofSlice s.w ht.und _ _ _ [] (by simp) (by simp) (by simp))
  refine fin (ρ id) s xs (hexec _ _ hr) hst.le hst.ok (GS.Chg.refl s) (by simpa using h2) (λb hb k=>by simpa using h5 b hb k) (λb hb _=>⟨rfl,λ_=>Iff.rfl⟩) (λb hb=>.inl hb) λk hk=>?_
  rw [List.append_nil] at hk ⊢
  exact ⟨(h6 k hk).1,(h6 k hk).2⟩
 .obtain ⟨g,p,rfl,h10⟩:=h9 h0
  obtain ⟨news,n1,n2,n3,n4⟩:=OU h10
  obtain ⟨v',s',hr,q1,q2,q3,q4,q5,q6,q7⟩:=Kj (P:=P) (ty:=o.type) hst.le hst.ok ht.und hT hzs h3 h4 h2 (λb hb=>hst.own id _ b hh hb) h5 g p r2.length c news n1 h0 n2 n3 hbytes h63
  refine fin v' s' (xs++news) (hexec _ _ (by rw [e2];exact hr)) q1 q2 q3 q4 q5 q6 q7 λk hk=>?_
  rw [List.length_append] at hk
  rw [Qt]
  have hxl:xs.length=rows.length*sz:=h2.1
  split
  .rename_i hlt
   refine ⟨(h6 k hlt).1,λj hj=>?_⟩
   obtain ⟨u,r1,r2',r3⟩:=(h6 k hlt).2 j hj
   refine ⟨u,?_,r2',(Cj _ j).st r3 q3⟩
   rw [List.getElem?_append_left]
   .exact r1
   .rw [hxl]
    have:(k+1)*sz<=rows.length*sz:=Nat.mul_le_mul_right sz hlt
    rw [Nat.succ_mul] at this
    omega
  .rename_i hge
   refine ⟨(h10 (k-rows.length) (by omega)).1,λj hj=>?_⟩
   obtain ⟨u,r1,r2',r3⟩:=n4 (k-rows.length) j (by omega) hj
   refine ⟨u,?_,r2',(Cj _ j).st r3 q3⟩
   have e3:k*sz=rows.length*sz+(k-rows.length)*sz:=by rw [<-Nat.add_mul];congr 1;omega
   rw [List.getElem?_append_right (by omega),hxl,<-r1]
   congr 1
   omega
theorem Ur{s:GS}{ρ:Nat->Value}{a:Act}{T sz cap:Nat}{arr:Array Value}(hst:StI s0 n σ a s ρ)(hT:T≠108)(h0:0<sz)(hc:cap<=maxLen)(harr:arr.size=cap*sz){dst:Option Tmp}(hd:UH dst n=true) :
  St s0 n (σ.new dst (.own σ.hp.length) (.row T sz [])) (a.put dst (.slice (some ⟨s.w.heap.size,0,none⟩) 0 cap)) (s.w.alloc (.cells arr T)):=
 ⟨s.mk' arr T 0, _, rfl, hst.new (s.le_mk' arr T 0 hT) (IM hd) (u := .slice (some ⟨s.w.heap.size, 0, none⟩) 0 cap) ⟨by omega, by simp⟩
  ⟨[], ⟨by simp, .inr ⟨s.w.heap.size, cap, arr, by simp, Nat.zero_le _, heap_alloc_new s.w _, Nat.zero_le _, hc, harr, by simp⟩⟩, hT, h0, fun b hb k => by
   simp only [if_pos] at hb
   cases hb
   exact ⟨λhk=>absurd (hst.ok.lt _ _ hk) (Nat.lt_irrefl _),λhk=>by simp at hk⟩,λk hk=>by simp at hk⟩ λb hb=>by cases hb;exact Nat.le_refl _⟩
theorem TP{t T m b sz bytes:Nat}{z z':Value}{d:TypeDesc}(hop:o.op = .buildSlice t 0 #[])(hg:o.guard=none)(ht:Tab P t (.slice T) m b z')(hT:Tab P T d sz bytes z)(hT32:T≠108)(h0:0<sz)(hd:UH o.dst n=true)(h:AWl P s0 n ops Q rest (σ.new o.dst (.own σ.hp.length) (.row T sz []))):AWl P s0 n ops Q (o::rest) σ:=by
 refine AWl.step hg λs ρ a hst K hK=>?_
 have hrun:(execOp a.eval o).run P s.w = .ok (.value (.slice (some ⟨s.w.heap.size,0,none⟩) 0 0)) (s.w.alloc (.cells #[] T)):=by
  have hn:∀arr,(newRow T arr).run P s.w = .ok ⟨s.w.heap.size,0,none⟩ (s.w.alloc (.cells arr T)):=λ_=>rfl
  simp [execOp,hop,Instr.buildSlice,run_underlying ht.und,hT.run_size,Instr.fill,hn]
  congr 2
  exact Array.eq_empty_of_size_eq_zero (by simp)
 unfold Oper.wp
 rw [hrun]
 exact hK _ _ _ h (Ur hst hT32 h0 (by simp [maxLen]) (by simp) hd)
theorem Xr{t T m b sz bytes:Nat}{z z':Value}{d:TypeDesc}{x y:Operand}{c:Int}(hop:o.op = .makeSlice t x y)(hg:o.guard=none)(hx:σ.arg x = .d (ex (.int .i64 0)))(hy:σ.arg y = .d (ex (.int .i64 c)))(ht:Tab P t (.slice T) m b z')(hT:Tab P T d sz bytes z)(hc0:0<=c)(hc:c<=1000000000)(hbytes:bytes<=65536)(hT32:T≠108)(h0:0<sz)(hd:UH o.dst n=true)(h:AWl P s0 n ops Q rest (σ.new o.dst (.own σ.hp.length) (.row T sz []))):AWl P s0 n ops Q (o::rest) σ:=by
 refine AWl.step hg λs ρ a hst K hK=>?_
 have e1:a.eval x = .int .i64 0:=St.exD hx ⟨s,ρ,rfl,hst⟩
 have e2:a.eval y = .int .i64 c:=St.exD hy ⟨s,ρ,rfl,hst⟩
 obtain ⟨i,hi,hz,hsize,hby⟩:=hT.info
 have w0:IntKind.i64.wrap 0=0:=rfl
 have wc:IntKind.i64.wrap c=c:=IntWalk.i64_in _ (by omega)
 obtain ⟨k,rfl⟩:=Int.eq_ofNat_of_zero_le hc0
 have hk:k<=1000000000:=by omega
 have hprod:bytes*k<=65536*1000000000:=Nat.mul_le_mul hbytes hk
 have hprod':((bytes:Int)*(k:Int))<=281474976710656:=by
  have:((bytes*k:Nat):Int)<=((65536*1000000000:Nat):Int):=Int.ofNat_le.2 hprod
  rw [Int.natCast_mul] at this
  omega
 have hroom:k*bytes<=roomBytes:=by
  rw [Nat.mul_comm]
  have:roomBytes=140737488355328:=rfl
  omega
 obtain ⟨arr,harr,hrun⟩:∃arr:Array Value,arr.size=k*sz/\(execOp a.eval o).run P s.w = .ok (.value (.slice (some ⟨s.w.heap.size,0,none⟩) 0 k)) (s.w.alloc (.cells arr T)):=by
  have hn:∀arr,(newRow T arr).run P s.w = .ok ⟨s.w.heap.size,0,none⟩ (s.w.alloc (.cells arr T)):=λ_=>rfl
  have h281:¬(281474976710656<(bytes:Int)*(k:Int)):=by omega
  have hroom':¬(roomBytes<k*bytes):=by omega
  have hkn:¬((k:Int)<0):=by omega
  by_cases hk0:k*sz=0
  .refine ⟨(Array.range (k*sz)).map (λj=>(#[]:Array Value)[j%0]!), by simp, ?_⟩
   simp [execOp,hop,e1,e2,Instr.makeSlice,run_underlying ht.und,asInt,asIntOf,typeInfo,hi,hby,w0,wc,h281,askRoom,hroom',hT.run_size,hk0,hn,sizeOf,hsize,hkn]
  .refine ⟨(Array.range (k*sz)).map (λj=>z.cells[j%z.cells.size]!), by simp, ?_⟩
   have hk1:k≠0:=λe=>hk0 (by rw [e,Nat.zero_mul])
   have hs1:sz≠0:=by omega
   simp [execOp,hop,e1,e2,Instr.makeSlice,run_underlying ht.und,asInt,asIntOf,typeInfo,hi,hby,w0,wc,h281,askRoom,hroom',sizeOf,hsize,hk1,hs1,zeroValue,hz,hn,hkn]
   exact λh=>absurd h hk0
 unfold Oper.wp
 rw [hrun]
 exact hK _ _ _ h (Ur hst hT32 h0 (by simp only [maxLen];omega) harr hd)
end
def Gk(s:GS)(cs:Array Value)(ds:List D):Prop:=cs.size=ds.length/\∀k,k<ds.length->∃u,cs[k]? = some u/\u.oneCell'=true/\(Cj ds k).rel s u
def Ny(ds:List D)(off:Nat)(es:List D):List D:=ds.take off++(es++ds.drop (off+es.length))
theorem DA{ds:List D}{off:Nat}{es:List D}(h:off+es.length<=ds.length):(Ny ds off es).length=ds.length:=by simp [Ny];omega
theorem Sp{ds:List D}{off:Nat}{es:List D}(h:off+es.length<=ds.length)(k:Nat):Cj (Ny ds off es) k=if off<=k/\k<off+es.length then Cj es (k-off) else Cj ds k:=by
 unfold Ny Cj
 rw [List.getD_eq_getElem?_getD,List.getElem?_append]
 have h1:(ds.take off).length=off:=by simp;omega
 rw [h1]
 split
 .rename_i hlt
  rw [if_neg (by omega),List.getElem?_take,if_pos hlt]
  simp
 .rename_i hge
  rw [List.getElem?_append]
  split
  .rename_i hlt
   rw [if_pos (by omega)]
   simp
  .rename_i hge2
   rw [if_neg (by omega),List.getElem?_drop]
   simp
   congr 2
   omega
theorem NW(cs:Array Value):∀(l:List (Value×Nat)) (b:Nat) (off:Nat),(∀p∈l,b<=p.2)->(l.map (·.2)).Pairwise (· < ·)->∀k,(l.foldl (λcs (p:Value×Nat)=>cs.setIfInBounds (off+p.2) p.1) cs).size=cs.size /\
  ((∀p∈l,off+p.2≠k)->(l.foldl (λcs (p:Value×Nat)=>cs.setIfInBounds (off+p.2) p.1) cs)[k]? = cs[k]?)/\(∀p∈l,off+p.2=k->k<cs.size->(l.foldl (λcs (p:Value×Nat)=>cs.setIfInBounds (off+p.2) p.1) cs)[k]? = some p.1)
 | [],b,off,_,_,k=>⟨rfl,λ_=>rfl,λp hp=>by cases hp⟩
 | q::l,b,off,hb,hp,k=>by
  have hp2:=List.pairwise_cons.1 hp
  obtain ⟨h1,h2,h3⟩:=NW (cs.setIfInBounds (off+q.2) q.1) l (q.2+1) off (λp hpl=>hp2.1 p.2 (List.mem_map_of_mem hpl)) hp2.2 k
  refine ⟨by rw [List.foldl_cons,h1];simp,λhk=>?_,λp hpm hk hlt=>?_⟩
  .rw [List.foldl_cons,h2 λp hpl=>hk p (List.mem_cons_of_mem _ hpl),Array.getElem?_setIfInBounds_ne (hk q List.mem_cons_self)]
  .rw [List.foldl_cons]
   rcases List.mem_cons.1 hpm with rfl | hpl
   .rw [h2 λp' hpl'=>by have:p.2<p'.2:=hp2.1 p'.2 (List.mem_map_of_mem (f:=λx:Value×Nat=>x.2) hpl'); omega, hk]
    simp [hlt]
   .exact h3 p hpl hk (by simpa using hlt)
theorem A3p{s:GS}{cs vs:Array Value}{ds es:List D}{off:Nat}(h:Gk s cs ds)(hv:Gk s vs es)(ho:off+es.length<=ds.length):Gk s (vs.zipIdx.foldl (λcs (p:Value×Nat)=>cs.setIfInBounds (off+p.2) p.1) cs) (Ny ds off es):=by
 rw [<-Array.foldl_toList]
 have hz:vs.zipIdx.toList=vs.toList.zipIdx:=by simp
 rw [hz]
 have hpw:(vs.toList.zipIdx.map (·.2)).Pairwise (· < ·):=by
  show (List.map Prod.snd _).Pairwise _
  rw [List.zipIdx_map_snd]
  exact List.pairwise_lt_range'
 have key:=NW cs vs.toList.zipIdx 0 off (λ_ _=>Nat.zero_le _) hpw
 refine ⟨by rw [(key 0).1,DA ho,h.1],λk hk=>?_⟩
 rw [DA ho] at hk
 rw [Sp ho]
 obtain ⟨h1,h2,h3⟩:=key k
 by_cases hin:off<=k/\k<off+es.length
 .rw [if_pos hin]
  obtain ⟨u,h4,h5,h6⟩:=hv.2 (k-off) (by omega)
  refine ⟨u,?_,h5,h6⟩
  refine h3 (u,k-off) ?_ (by show off+(k-off)=k;omega) (by rw [h.1];exact hk)
  rw [List.mem_zipIdx_iff_getElem?]
  simpa using h4
 .rw [if_neg hin]
  obtain ⟨u,h4,h5,h6⟩:=h.2 k hk
  refine ⟨u,?_,h5,h6⟩
  rw [h2 λp hp=>?_,h4]
  rw [List.mem_zipIdx_iff_getElem?] at hp
  have:=(List.getElem?_eq_some_iff.1 hp).1
  simp [hv.1] at this
  omega
def FG(place:Nat->Option (Nat×Nat))(ds:List D):List (Nat×List D)->Option (List D)
 | []=>some ds
 | (i,es)::r=>match place i with
  | some (off,size)=>bif Nat.beq es.length size&&Nat.ble (off+size) ds.length then FG place (Ny ds off es) r else none
  | none=>none
def A3G(s:GS)(v:Value)(es:List D):Prop:=Gk s v.cells es
def TC(s:GS):List (Nat×Value)->List (Nat×List D)->Prop
 | [],[]=>True
 | (i,v)::l,(j,es)::r=>i=j/\A3G s v es/\TC s l r
 | _,_=>False
theorem Jx{s:GS}{place:Nat->Option (Nat×Nat)}:∀{l:List (Nat×Value)} {r:List (Nat×List D)} {cs:Array Value} {ds ds':List D},TC s l r->Gk s cs ds->FG place ds r=some ds'->∃cs',Instr.fill place cs l=some cs'/\Gk s cs' ds'
 | [],[],cs,ds,ds',_,hc,hf=>by cases hf;exact ⟨cs,rfl,hc⟩
 | [],_::_,_,_,_,h,_,_=>h.elim
 | _::_,[],_,_,_,h,_,_=>h.elim
 | (i,v)::l,(j,es)::r,cs,ds,ds',⟨hij,hp,hr⟩,hc,hf=>by
  subst hij
  unfold FG at hf
  cases hpl:place i with
  | none=>rw [hpl] at hf;cases hf
  | some q=>
   obtain ⟨off,size⟩:=q
   rw [hpl] at hf
   simp only at hf
   cases hb:(Nat.beq es.length size&&Nat.ble (off+size) ds.length) with
   | false=>rw [hb] at hf;cases hf
   | true=>
    rw [hb] at hf
    simp only [Bool.and_eq_true,Nat.ble_eq] at hb
    have e1:es.length=size:=Nat.eq_of_beq_eq_true hb.1
    have e2:=hb.2
    have h1:v.cells.size=size:=by rw [hp.1,e1]
    have h2:=A3p hc hp (off:=off) (by omega)
    obtain ⟨cs',h3,h4⟩:=Jx hr h2 hf
    refine ⟨cs',?_,h4⟩
    unfold Instr.fill
    rw [hpl]
    have hc1:=hc.1
    simp only
    rw [if_neg (by simp only [Bool.or_eq_true,decide_eq_true_eq,ne_eq,not_or,Decidable.not_not];omega)]
    exact h3
def PartsA(hp:List Ow)(arg:Operand->AV):List (Nat×Operand)->List (Nat×List D)->Prop
 | [],[]=>True
 | (i,x)::l,(j,es)::r=>i=j/\(arg x = .d (BF es)\/∃y,Ew hp (arg x)=some y/\One hp (arg x)/\es=[y])/\PartsA hp arg l r
 | _,_=>False
theorem PartsA.nil{hp:List Ow}{arg:Operand->AV}:PartsA hp arg [] []:=trivial
theorem Xf{hp:List Ow}{arg:Operand->AV}{i:Nat}{x:Operand}{es:List D}{l:List (Nat×Operand)}{r:List (Nat×List D)}(h:arg x = .d (BF es))(hr:PartsA hp arg l r):PartsA hp arg ((i,x)::l) ((i,es)::r):=⟨rfl,.inl h,hr⟩
theorem PartsA.rel{base:Nat}{ρ:Nat->Value}{s:GS}{hp:List Ow}{arg:Operand->AV}{ev:Operand->Value}(hh:HpOk base ρ s hp):∀{l:List (Nat×Operand)} {r:List (Nat×List D)},PartsA hp arg l r->(∀p∈l,AVr hp.length ρ s (arg p.2) (ev p.2))->TC s (l.map λp=>(p.1,ev p.2)) r
 | [],[],_,_=>trivial
 | [],_::_,h,_=>h.elim
 | _::_,[],h,_=>h.elim
 | (i,x)::l,(j,es)::r,⟨h1,h2,h3⟩,h=>by
  refine ⟨h1,?_,PartsA.rel hh h3 λp hp=>h p (List.mem_cons_of_mem _ hp)⟩
  have hx:=h (i,x) List.mem_cons_self
  rcases h2 with h2 | ⟨y,h2,h4,rfl⟩
  .have hx:AVr hp.length ρ s (arg x) (ev x):=hx
   rw [h2] at hx
   obtain ⟨cs,e,h5,h6⟩:=hx
   show Gk s (ev x).cells es
   rw [e]
   exact ⟨h5,h6⟩
  .have h5:=h4 _ _ _ _ hh hx
   have h6:=CQ hh hx h2
   show Gk s (ev x).cells [y]
   have:(ev x).cells=#[ev x]:=by cases hv:ev x<;>first | rfl | (rw [show ev x=_ from hv] at h5;cases h5)
   rw [this]
   refine ⟨rfl,λk hk=>?_⟩
   obtain rfl:k=0:=by simp at hk;omega
   exact ⟨ev x,rfl,h5,h6⟩
def FieldsT(P:Program):List Field->List (Nat×Nat)->Prop
 | [],[]=>True
 | f::l,p::r=>(∃d b z,Tab P f.type d p.2 b z)/\p.1=f.offset/\FieldsT P l r
 | _,_=>False
theorem FieldsT.nil{P:Program}:FieldsT P [] []:=trivial
theorem FieldsT.cons{P:Program}{f:Field}{l:List Field}{d:TypeDesc}{n b:Nat}{z:Value}{r:List (Nat×Nat)}(h:Tab P f.type d n b z)(hr:FieldsT P l r):FieldsT P (f::l) ((f.offset,n)::r):=⟨⟨d,b,z,h⟩,rfl,hr⟩
theorem FieldsT.run {P : Program} {w : World} : ∀ {l : List Field} {r : List (Nat × Nat)}, FieldsT P l r → (l.mapM fun f => do pure (f.offset, ← sizeOf f.type) : Sem (List (Nat × Nat))).run P w = .ok r w
 | [],[],_=>by simp
 | [],_::_,h=>h.elim
 | _::_,[],h=>h.elim
 | f::l,(o,n)::r,⟨⟨d,b,z,h1⟩,h2,h3⟩=>by
  have ih:=FieldsT.run (w:=w) h3
  have h2:o=f.offset:=h2
  subst h2
  simp only [List.mapM_cons,Sem.run_bind,h1.run_size,Result.andThen_ok,Sem.run_pure,ih]
def Pk(l:List Value):List D:=l.map ex
theorem Oe{s:GS}{z:Array Value}(h:Gg z.toList=true):Gk s z (Pk z.toList):=by
 refine ⟨by simp [Pk],λk hk=>?_⟩
 simp [Pk] at hk
 refine ⟨z[k],Array.getElem?_eq_getElem hk,List.all_eq_true.1 h _ (by simp),?_⟩
 have:Cj (Pk z.toList) k=ex z[k]:=by simp [Cj,Pk,hk]
 rw [this]
 rfl
section
variable {P:Program} {hp:List Ow} {o:Oper} {arg:Operand->AV}
theorem Quiet.build{t:TypeId}{fs:Array Field}{n b:Nat}{z:Value}{parts:List (Nat×Operand)}{pl:List (Nat×Nat)}{r:List (Nat×List D)}{ds:List D}(hop:o.op = .build t parts.toArray)(ht:Tab P t (.struct fs) n b z)(hpl:FieldsT P fs.toList pl)(h1:Gg z.cells.toList=true)(hr:PartsA hp arg parts r)(hf:FG (λi=>pl[i]?) (Pk z.cells.toList) r=some ds):Quiet P hp o arg (.d (BF ds)):=by
 refine ⟨λbase s ρ ev hok hbs hhp h=>?_⟩
 have h2:=PartsA.rel (ev:=ev) hhp hr λp hpp=>h p.2 (by rw [hop];simp only [Op.operands,List.mem_toArray];exact List.mem_map_of_mem hpp)
 obtain ⟨cs',h3,h4⟩:=Jx h2 (Oe h1) hf
 refine BO (v:=.agg cs') ?_ ⟨GS.Le.refl s,cs',rfl,h4⟩
 have h5:=FieldsT.run (w:=s.w) hpl
 have h6 : (fs.mapM fun f => do pure (f.offset, ← sizeOf f.type) : Sem (Array (Nat × Nat))).run P s.w = .ok pl.toArray s.w := by
  rw [<-Array.toArray_toList (xs:=fs),List.mapM_toArray,Sem.run_map,h5]
  rfl
 have h7:(λx:Nat=>pl.toArray[x]?)=λi=>pl[i]?:=by funext i;simp
 have h8:(parts.toArray.map λp:Nat×Operand=>(p.1,ev p.2)).toList=parts.map λp=>(p.1,ev p.2):=by simp
 simp only [execOp,hop,Instr.build,Sem.run_bind,ht.run_zero,Result.andThen_ok,run_underlying ht.und,h6,h7,h8,h3,Sem.run_pure]
theorem MV{t e:TypeId}{len n b n' b':Nat}{z z':Value}{d:TypeDesc}{parts:List (Nat×Operand)}{r:List (Nat×List D)}{ds:List D}(hop:o.op = .build t parts.toArray)(ht:Tab P t (.array len e) n b z)(he:Tab P e d n' b' z')(h1:Gg z.cells.toList=true)(hr:PartsA hp arg parts r)(hf:FG (λi=>some (i*n',n')) (Pk z.cells.toList) r=some ds):Quiet P hp o arg (.d (BF ds)):=by
 refine ⟨λbase s ρ ev hok hbs hhp h=>?_⟩
 have h2:=PartsA.rel (ev:=ev) hhp hr λp hpp=>h p.2 (by rw [hop];simp only [Op.operands,List.mem_toArray];exact List.mem_map_of_mem hpp)
 obtain ⟨cs',h3,h4⟩:=Jx h2 (Oe h1) hf
 refine BO (v:=.agg cs') ?_ ⟨GS.Le.refl s,cs',rfl,h4⟩
 have h8:(parts.toArray.map λp:Nat×Operand=>(p.1,ev p.2)).toList=parts.map λp=>(p.1,ev p.2):=by simp
 simp only [execOp,hop,Instr.build,Sem.run_bind,ht.run_zero,Result.andThen_ok,run_underlying ht.und,he.run_size,h8,h3,Sem.run_pure]
def FJ(sz:Nat):Nat->List D->List (List D)
 | 0,_=>[]
 | n+1,ds=>ds.take sz::FJ sz n (ds.drop sz)
theorem EF(sz:Nat):∀(n:Nat) (ds:List D),(FJ sz n ds).length=n
 | 0,_=>rfl
 | n+1,ds=>by simp [FJ,EF sz n]
theorem MI(sz:Nat):∀(n:Nat) (ds:List D) (k:Nat),k<n->(FJ sz n ds).getD k []=(ds.drop (k*sz)).take sz
 | 0,_,k,h=>absurd h (by omega)
 | n+1,ds,0,_=>by simp [FJ]
 | n+1,ds,k+1,h=>by
  have:=MI sz n (ds.drop sz) k (by omega)
  rw [List.drop_drop] at this
  simp only [FJ,List.getD_cons_succ,this,Nat.succ_mul]
  rw [Nat.add_comm sz]
theorem Quiet.buildSlice{t e:TypeId}{len n b n' b':Nat}{z z':Value}{d:TypeDesc}{parts:List (Nat×Operand)}{r:List (Nat×List D)}{ds:List D}(hop:o.op = .buildSlice t len parts.toArray)(ht:Tab P t (.slice e) n b z)(he:Tab P e d n' b' z')(hlen:0<len)(hn:0<n')(hz:z'.cells.size=n')(h24:len*n'<=16777216)(h1:Gg z'.cells.toList=true)(hr:PartsA hp arg parts r)(hf:FG (λi=>some (i*n',n')) (List.replicate (len*n') Dp) r=some ds):Quiet P hp o arg (.d (slD e n' (FJ n' len ds))):=by
 refine ⟨λbase s ρ ev hok hbs hhp h=>?_⟩
 have h2:=PartsA.rel (ev:=ev) hhp hr λp hpp=>h p.2 (by rw [hop];simp only [Op.operands,List.mem_toArray];exact List.mem_map_of_mem hpp)
 have hz0:Gk s ((Array.range (len*n')).map (λj=>z'.cells[j%z'.cells.size]!)) (List.replicate (len*n') Dp):=by
  refine ⟨by simp,λk hk=>?_⟩
  simp at hk
  have hlt:k%z'.cells.size<z'.cells.size:=Nat.mod_lt _ (by omega)
  refine ⟨z'.cells[k % z'.cells.size]!, by simp [hk], List.all_eq_true.1 h1 _ (by
   have e:z'.cells[k%z'.cells.size]! = z'.cells[k%z'.cells.size]'hlt:=by simp [hlt]
   rw [e]
   simp),?_⟩
  have:Cj (List.replicate (len*n') Dp) k=Dp:=by simp [Cj,hk]
  rw [this]
  trivial
 obtain ⟨cs',h3,h4⟩:=Jx h2 hz0 hf
 have hn0:len*n'≠0:=by
  have:=Nat.mul_pos hlen hn
  omega
 have h8:(parts.toArray.map λp:Nat×Operand=>(p.1,ev p.2)).toList=parts.map λp=>(p.1,ev p.2):=by simp
 have hrun:(execOp ev o).run P s.w = .ok (.value (.slice (some ⟨s.w.heap.size,0,none⟩) len len)) (s.w.alloc (.cells cs' e)):=by
  have hnr:∀arr,(newRow e arr).run P s.w = .ok ⟨s.w.heap.size,0,none⟩ (s.w.alloc (.cells arr e)):=λ_=>rfl
  have h24':¬(len*n'>2^24):=by omega
  simp only [execOp,hop,Instr.buildSlice,Sem.run_bind,run_underlying ht.und,Result.andThen_ok,he.run_size,if_neg h24',if_neg hn0,he.run_zero,Sem.run_pure,h8,h3,hnr]
 have hE:Ext s.w (s.w.alloc (.cells cs' e)):=(Ext.refl _).alloc _
 have hle:=Gd hE
 have hl:ds.length=len*n':=by
  have h9:∀(l:List (Nat×List D)) (ds0 ds1:List D),FG (λi=>some (i*n',n')) ds0 l=some ds1->ds1.length=ds0.length:=by
   intro l
   induction l with
   | nil=>intro ds0 ds1 h;cases h;rfl
   | cons p l ih=>
    intro ds0 ds1 h
    obtain ⟨i,es⟩:=p
    unfold FG at h
    simp only at h
    cases hb:(Nat.beq es.length n'&&Nat.ble (i*n'+n') ds0.length) with
    | false=>rw [hb] at h;cases h
    | true=>
     rw [hb] at h
     simp only [Bool.and_eq_true,Nat.ble_eq] at hb
     have e1:es.length=n':=Nat.eq_of_beq_eq_true hb.1
     rw [ih _ _ h,DA (by omega)]
  rw [h9 _ _ _ hf]
  simp
 refine Us hrun (s.grown (s.w.alloc (.cells cs' e))) rfl ⟨hle,_,len,by rw [EF],by rw [EF];exact Nat.le_refl _,by have:=Nat.le_mul_of_pos_right len hn;omega,λ_=>⟨s.w.heap.size,0,rfl,λk hk=>?_⟩⟩
 rw [EF] at hk
 have hkl:k*n'+n'<=len*n':=by
  have:(k+1)*n'<=len*n':=Nat.mul_le_mul_right n' hk
  rw [Nat.succ_mul] at this
  omega
 rw [MI _ _ _ _ hk]
 refine ⟨by simp;omega,cs',(0,0),heap_alloc_new s.w _,λj hj=>?_⟩
 have hj':j<n':=by simp at hj;omega
 refine ⟨.inr ⟨Nat.le_refl _,by show _<(s.w.alloc _).heap.size;simp⟩,?_⟩
 rw [MA hj',MB,Nat.zero_add]
 obtain ⟨u,h10,h11,h12⟩:=h4.2 (k*n'+j) (by omega)
 exact ⟨u,h10,h11,(Cj ds _).st h12 hle.chg⟩
theorem Quiet.slice{x:Operand}{t:TypeId}{e n b n' b' T sz:Nat}{d:TypeDesc}{z z':Value}{lo hi:Option Operand}{rows:List (List D)}{i j:Int}(hop:o.op = .slice t x lo hi none)(hx:Ew hp (arg x)=some (slD T sz rows))(ht:Tab P t (.slice e) n b z)(he:Tab P e d n' b' z')(hsz:n'=sz)(hlo:(∃y,lo=some y/\arg y = .d (ex (.int .i64 i)))\/(lo=none/\i=0))(hhi:(∃y,hi=some y/\arg y = .d (ex (.int .i64 j)))\/(hi=none/\j=rows.length))(h0:0<=i)(hij:i<=j)(hj:j<=rows.length):Quiet P hp o arg (.d (slD T sz ((rows.take j.toNat).drop i.toNat))):=by
 refine ⟨λbase s ρ ev hok hbs hhp h=>?_⟩
 obtain ⟨A,c,e1,h1,h2,h3⟩:=CQ hhp (h x (by rw [hop];simp [Op.operands])) hx
 subst hsz
 obtain ⟨i,rfl⟩:=Int.eq_ofNat_of_zero_le h0
 obtain ⟨j,rfl⟩:=Int.eq_ofNat_of_zero_le (Int.le_trans h0 hij)
 have hij':i<=j:=by omega
 have hj':j<=rows.length:=by omega
 have elo:∃lo',lo.map ev=lo'/\((lo'=some (.int .i64 i))\/(lo'=none/\i=0)):=by
  rcases hlo with ⟨y,rfl,hy⟩ | ⟨rfl,hi0⟩
  .have h5:=h y (by rw [hop]; simp [Op.operands])
   rw [hy] at h5
   exact ⟨_,rfl,.inl (by show some (ev y)=_;rw [show ev y=_ from h5])⟩
  .exact ⟨_,rfl,.inr ⟨rfl,by omega⟩⟩
 have ehi:∃hi',hi.map ev=hi'/\((hi'=some (.int .i64 j))\/(hi'=none/\j=rows.length)):=by
  rcases hhi with ⟨y,rfl,hy⟩ | ⟨rfl,hi0⟩
  .have h5:=h y (by rw [hop]; simp [Op.operands])
   rw [hy] at h5
   exact ⟨_,rfl,.inl (by show some (ev y)=_;rw [show ev y=_ from h5])⟩
  .exact ⟨_,rfl,.inr ⟨rfl,by omega⟩⟩
 obtain ⟨lo',l1,l2⟩:=elo
 obtain ⟨hi',r1,r2⟩:=ehi
 have hjc:(j:Int)<=c:=by omega
 have hic:(i:Int)<=j:=by omega
 have hb:(Instr.sliceBounds true rows.length c lo' hi' none).run P s.w = .ok (i,j,c) s.w:=by
  rcases l2 with rfl | ⟨rfl,rfl⟩<;>rcases r2 with rfl | ⟨rfl,rfl⟩<;>simp [Instr.sliceBounds,Instr.sliceBound,asIntOf,hjc,hic,hij',hj',h1]
  all_goals first | omega | simp [hij',hj',h1] | skip
 have hrun:(execOp ev o).run P s.w = .ok (.value (.slice (if c=i then A else A.map (·.add (i*n'))) (j-i) (c-i))) s.w:=by
  simp only [execOp,hop,l1,r1,e1,Option.map_none,Instr.sliceAt,Sem.run_bind,run_underlying ht.und,Result.andThen_ok,Instr.slice,hb,he.run_size,Sem.run_pure]
 have hlen:((rows.take (j:Int).toNat).drop (i:Int).toNat).length=j-i:=by simp;omega
 refine BO hrun ⟨GS.Le.refl s,(if c=i then A else A.map (·.add (i*n'))),c-i,by rw [hlen],by rw [hlen];omega,by omega,λhp=>?_⟩
 rw [hlen] at hp
 obtain ⟨g,p,rfl,h5⟩:=h3 (by omega)
 refine ⟨g,p+i*n',?_,λk hk=>?_⟩
 .rw [if_neg (by omega)]
  simp [Addr.add_lit]
 .rw [hlen] at hk
  rw [show (j:Int).toNat=j from rfl,show (i:Int).toNat=i from rfl]
  rw [NG,NF (by omega)]
  have:=h5 (i+k) (by omega)
  rw [Nat.add_mul,<-Nat.add_assoc] at this
  exact this
end
def AVle(hp:List Ow)(m:Nat)(x y:AV):Prop:=∀base ρ s v,HpOk base ρ s hp->AVr hp.length ρ s x v->AVr m ρ s y v
theorem AVle.d{hp:List Ow}{m:Nat}{x y:D}(h:x=y):AVle hp m (.d x) (.d y):=λ_ _ _ _ _ hv=>h▸hv
theorem AVle.le{hp:List Ow}{m:Nat}{x y:D}(h:D.le x y):AVle hp m (.d x) (.d y):=λ_ _ s v _ hv=>h s v hv
theorem AVle.int{hp:List Ow}{m:Nat}{k:IntKind}{a b:Int}(h:a=b):AVle hp m (.d (ex (.int k a))) (.d (ex (.int k b))):=AVle.d (by rw [h])
theorem AVle.ptr{hp:List Ow}{m i off:Nat}(h:Nat.blt i m=true):AVle hp m (.ptr i off) (.ptr i off):=λ_ _ _ _ _ ⟨_,hv⟩=>⟨by simpa [Nat.blt_eq] using h,hv⟩
theorem AVle.own{hp:List Ow}{m i:Nat}(h:Nat.blt i m=true):AVle hp m (.own i) (.own i):=λ_ _ _ _ _ ⟨_,hv⟩=>⟨by simpa [Nat.blt_eq] using h,hv⟩
theorem Qd{hp:List Ow}{m:Nat}{f:FuncId}{caps:List Nat}(h:caps.all (Nat.blt · m)=true):AVle hp m (.fn f caps) (.fn f caps):=λ_ _ _ _ _ ⟨_,hv⟩=>⟨λi hi=>by simpa [Nat.blt_eq] using List.all_eq_true.1 h i hi,hv⟩
theorem Ko{hp:List Ow}{m i:Nat}{x y:D}(h:Ew hp (.own i)=some x)(hl:D.le x y):AVle hp m (.own i) (.d y):=λ_ _ s v hh hv=>hl s v (CQ hh hv h)
theorem DY{T sz:Nat}:D.le (ex (.slice none 0 0)) (slD T sz []):=λs v h=>by
 have:v = .slice none 0 0:=h
 subst this
 exact slD.nil T sz s
def FrLe(hp:List Ow)(m:Nat)(fr fr':List (Nat×AV)):Prop:=∀p∈fr',∃av,CA fr p.1=some av/\AVle hp m av p.2
theorem FrLe.nil{hp:List Ow}{m:Nat}{fr:List (Nat×AV)}:FrLe hp m fr []:=λp hp=>by cases hp
theorem FrLe.cons{hp:List Ow}{m:Nat}{fr r:List (Nat×AV)}{t:Nat}{x y:AV}(h:CA fr t=some x)(hl:AVle hp m x y)(hr:FrLe hp m fr r):FrLe hp m fr ((t,y)::r):=λp hp=>by
 rcases List.mem_cons.1 hp with rfl | hp
 .exact ⟨x,h,hl⟩
 .exact hr p hp
def OwLe(hp:List Ow)(m:Nat):Ow->Ow->Prop
 | _,.dead=>True
 | .var T cells,.var T' cells'=>T=T'/\cells.length=cells'.length/\∀(k:Nat) y,cells'[k]? = some y->∃x,cells[k]? = some x/\AVle hp m x y
 | .row T sz rows,.row T' sz' rows'=>T=T'/\sz=sz'/\rows=rows'
 | .obj O,.obj O'=>O=O'
 | .pin l,.pin l'=>l.length=l'.length/\∀(k:Nat) q,l'[k]? = some q->∃p,l[k]? = some p/\p.1=q.1/\AVle hp m p.2 q.2
 | _,_=>False
theorem OwLe.dead{hp:List Ow}{m:Nat}{x:Ow}:OwLe hp m x .dead:=by cases x<;>trivial
theorem Cg{hp:List Ow}{m T sz:Nat}{r r':List (List D)}(h:r=r'):OwLe hp m (.row T sz r) (.row T sz r'):=⟨rfl,rfl,h⟩
theorem OwLe.obj{hp:List Ow}{m:Nat}{O O':OD}(h:O=O'):OwLe hp m (.obj O) (.obj O'):=h
theorem OwLe.pin{hp:List Ow}{m:Nat}{l:List (Value×AV)}(h:∀p∈l,AVle hp m p.2 p.2):OwLe hp m (.pin l) (.pin l):=⟨rfl,λk q hq=>⟨q,hq,rfl,h q (List.mem_of_getElem? hq)⟩⟩
theorem OwLe.var{hp:List Ow}{m T:Nat}{c c':List AV}(hl:c.length=c'.length)(h:∀(k:Nat) y,c'[k]? = some y->∃x,c[k]? = some x/\AVle hp m x y):OwLe hp m (.var T c) (.var T c'):=⟨rfl,hl,h⟩
theorem GI{hp:List Ow}{m T:Nat}{c c':List D}(h:c=c'):OwLe hp m (.var T (c.map .d)) (.var T (c'.map .d)):=by
 subst h
 refine ⟨rfl,rfl,λk y hy=>⟨y,hy,?_⟩⟩
 rw [List.getElem?_map] at hy
 cases hk:c[k]? with
 | none=>rw [hk] at hy;cases hy
 | some x=>rw [hk] at hy;cases hy;exact AVle.d rfl
def HpLe(hp:List Ow)(m:Nat):List Ow->List Ow->Prop
 | _,[]=>True
 | x::l,y::r=>OwLe hp m x y/\HpLe hp m l r
 | [],_::_=>False
theorem HpLe.nil{hp:List Ow}{m:Nat}{l:List Ow}:HpLe hp m l []:=by cases l<;>trivial
theorem HpLe.cons{hp:List Ow}{m:Nat}{x y:Ow}{l r:List Ow}(h:OwLe hp m x y)(hr:HpLe hp m l r):HpLe hp m (x::l) (y::r):=⟨h,hr⟩
theorem HpLe.get{hp:List Ow}{m:Nat}:∀{l r:List Ow},HpLe hp m l r->∀(i:Nat) y,r[i]? = some y->∃x,l[i]? = some x/\OwLe hp m x y
 | _,[],_,i,y,h=>by cases h
 | [],_::_,h,_,_,_=>h.elim
 | x::l,y::r,⟨h1,h2⟩,0,z,h=>by cases h;exact ⟨x,rfl,h1⟩
 | x::l,y::r,⟨h1,h2⟩,i+1,z,h=>HpLe.get h2 i z (by simpa using h)
theorem Ak{σ τ:AS}(hf:FrLe σ.hp τ.hp.length σ.fr τ.fr)(hh:HpLe σ.hp τ.hp.length σ.hp τ.hp):AS.le σ τ:=by
 intro s0 n a w ⟨s,ρ,hw,h⟩
 have hlive:∀(i:Nat) (o':Ow),τ.hp[i]? = some o'->∀b,OwB s (ρ i) o' b->∃o:Ow,σ.hp[i]? = some o/\OwB s (ρ i) o b:=λi o' hi b hb=>by
  obtain ⟨o,h1,h2⟩:=hh.get i o' hi
  refine ⟨o,h1,?_⟩
  cases o<;>cases o'<;>first | exact h2.elim | exact hb.elim | exact hb | (replace h2:_=_:=h2;subst h2;exact hb)
 refine ⟨s,ρ,hw,h.le,h.ok,λt av ht=>?_,h.sz,h.df,λi o' hi=>?_,λi j o o' hij hi hj b hb hb'=>?_,λi o b hi hb=>?_⟩
 .obtain ⟨av0,h1,h2⟩:=hf _ (Me ht)
  exact h2 _ _ _ _ h.hp (h.fr t av0 h1)
 .obtain ⟨o,h1,h2⟩:=hh.get i o' hi
  have h3:=h.hp i o h1
  cases o' with
  | dead=>trivial
  | var T cells=>
   cases o with
   | dead=>exact h2.elim
   | row=>exact h2.elim
   | obj=>exact h2.elim
   | pin=>exact h2.elim
   | var T0 cells0=>
    obtain ⟨rfl,e2,e3⟩:=h2
    obtain ⟨b,cs,p1,p2,p3,p4,p5,p6,p7⟩:=h3
    refine ⟨b,cs,p1,p2,p3,p4.trans e2,p5,p6,λk av hk=>?_⟩
    obtain ⟨x,q1,q2⟩:=e3 k av hk
    obtain ⟨u,q3,q4,q5⟩:=p7 k x q1
    exact ⟨u,q3,q4,q2 _ _ _ _ h.hp q5⟩
  | row T sz rows=>
   cases o with
   | dead=>exact h2.elim
   | var=>exact h2.elim
   | obj=>exact h2.elim
   | pin=>exact h2.elim
   | row T0 sz0 rows0=>
    obtain ⟨rfl,rfl,rfl⟩:=h2
    exact h3
  | obj O=>
   cases o with
   | obj O0=>
    replace h2:O0=O:=h2
    subst h2
    exact h3
   | _=>exact h2.elim
  | pin l=>
   cases o with
   | pin l0=>
    intro q hq
    obtain ⟨k,hk⟩:=List.getElem?_of_mem hq
    obtain ⟨p,q1,q2,q3⟩:=h2.2 k q hk
    have:=q3 _ _ _ _ h.hp (h3 p (List.mem_of_getElem? q1))
    rwa [q2] at this
   | _=>exact h2.elim
 .obtain ⟨x,h1,h2⟩:=hlive i o hi b hb
  obtain ⟨y,h3,h4⟩:=hlive j o' hj b hb'
  exact h.sep i j x y hij h1 h3 b h2 h4
 .obtain ⟨x,h1,h2⟩:=hlive i o hi b hb
  exact h.own i x b h1 h2
theorem AWp.some_{P:Program}{s0:An}{n:Nat}{Q:Exit->AS->Prop}{σ:AS}{c:Code}{t:Nat}{α:Type}{p:α->Prop}{f:α->D}(h:CA σ.fr t=some (.d (Uc p f)))(hx:∀x,p x->AWp P s0 n c Q { fr:=(t,.d (f x))::σ.fr,hp:=σ.hp }):AWp P s0 n c Q σ:=by
 refine ⟨λa w ⟨s,ρ,hw,hst⟩=>?_⟩
 obtain ⟨x,h1,h2⟩:=hst.fr t _ h
 refine (hx x h1).run a w ⟨s,ρ,hw,hst.le,hst.ok,λu av hu=>?_,hst.sz,hst.df,hst.hp,hst.sep,hst.own⟩
 rw [DL] at hu
 split at hu
 .rename_i e
  subst e
  cases hu
  exact h2
 .exact hst.fr u av hu
theorem AWl.some_{P:Program}{s0:An}{n:Nat}{Q:Exit->AS->Prop}{σ:AS}{ops:Array Oper}{l:List Oper}{t:Nat}{α:Type}{p:α->Prop}{f:α->D}(h:CA σ.fr t=some (.d (Uc p f)))(hx:∀x,p x->AWl P s0 n ops Q l { fr:=(t,.d (f x))::σ.fr,hp:=σ.hp }):AWl P s0 n ops Q l σ:=by
 refine ⟨λa w ⟨s,ρ,hw,hst⟩=>?_⟩
 obtain ⟨x,h1,h2⟩:=hst.fr t _ h
 refine (hx x h1).run a w ⟨s,ρ,hw,hst.le,hst.ok,λu av hu=>?_,hst.sz,hst.df,hst.hp,hst.sep,hst.own⟩
 rw [DL] at hu
 split at hu
 .rename_i e
  subst e
  cases hu
  exact h2
 .exact hst.fr u av hu
def params:Nat->List D->List (Nat×AV)
 | _,[]=>[]
 | i,d::ds=>(i,.d d)::params (i+1) ds
theorem Kz:∀{ds:List D} {i t:Nat} {av:AV},CA (params i ds) t=some av->i<=t/\t-i<ds.length/\av = .d (Cj ds (t-i))
 | [],i,t,av,h=>by cases h
 | d::ds,i,t,av,h=>by
  unfold params at h
  rw [DL] at h
  split at h
  .rename_i e
   subst e
   cases h
   exact ⟨Nat.le_refl _,by simp,by simp [Cj]⟩
  .rename_i e
   obtain ⟨h1,h2,h3⟩:=Kz h
   refine ⟨by omega,by simp;omega,?_⟩
   rw [h3,show t-i=(t-(i+1))+1 by omega]
   simp [Cj]
def DD(tmps:Array Value):ResultVar->Sem Value
 | .tmp t=>pure (tmps.getD t undef)
 | .cell a t=>do loadVar t (<-asAddr (tmps.getD a undef))
structure ResV(P:Program)(σ:AS)(rv:ResultVar)(x:D):Prop where
 run:∀(base:Nat) (ρ:Nat->Value) (s:GS) (tmps:Array Value),HpOk base ρ s σ.hp->(∀t av,CA σ.fr t=some av->AVr σ.hp.length ρ s av (tmps.getD t undef))->∃v,(DD tmps rv).run P s.w = .ok v s.w/\x.rel s v
theorem ResV.tmp{P:Program}{σ:AS}{t:Nat}{x:D}{av:AV}(h:CA σ.fr t=some av)(hx:Ew σ.hp av=some x):ResV P σ (.tmp t) x:=⟨λbase ρ s tmps hh hfr=>⟨_,rfl,CQ hh (hfr t av h) hx⟩⟩
theorem ResV.cell{P:Program}{σ:AS}{t T T0 n b id:Nat}{d:TypeDesc}{z:Value}{cells:List AV}{ds:List D}(h:CA σ.fr t=some (.ptr id 0))(hh:σ.hp[id]? = some (.var T0 cells))(ht:Tab P T d n b z)(hd:Ec d=true)(hc:SZ σ.hp cells=some ds)(hn:cells.length=n):ResV P σ (.cell t T) (BF ds):=by
 refine ⟨λbase ρ s tmps hhp hfr=>?_⟩
 obtain ⟨-,g,h3,e1⟩:=hfr t _ h
 obtain ⟨g',cs,h4,h5,h6,h7,h8,h9,h10⟩:=hhp id _ hh
 rw [h3] at h4
 cases h4
 obtain ⟨hl,hg⟩:=MJ hc
 have hl2:ds.length=n:=by rw [<-hl];exact hn
 have key:∀j,∃u,j<n->s.w.cell? ⟨g,0+j,none⟩=some u/\u.oneCell'=true/\(Cj ds j).rel s u:=λj=>by
  by_cases hj:j<n
  .have hlt:j<cells.length:=by omega
   obtain ⟨u,h11,h12,h13⟩:=h10 j _ (List.getElem?_eq_getElem hlt)
   refine ⟨u,λ_=>⟨by rw [Nat.zero_add];exact (BK h6).trans h11,h12,?_⟩⟩
   exact CQ hhp h13 (hg j _ (List.getElem?_eq_getElem hlt))
  .exact ⟨undef,λh=>absurd h hj⟩
 obtain ⟨f,hf⟩:∃f:Nat->Value,∀j,j<n->s.w.cell? ⟨g,0+j,none⟩=some (f j)/\(f j).oneCell'=true/\(Cj ds j).rel s (f j):=⟨λj=>(key j).choose,λj hj=>(key j).choose_spec hj⟩
 have hr:=FV ht hd g 0 f λj hj=>(hf j hj).1
 refine ⟨.agg ((List.range n).map f).toArray,?_,_,rfl,by simp [hl2],λk hk=>?_⟩
 .simp [DD,e1,asAddr,hr]
 .rw [hl2] at hk
  exact ⟨f k,by simp [hk],(hf k hk).2⟩
structure Rets(P:Program)(σ:AS)(rs:Array ResultVar)(r:D):Prop where
 run:∀(base:Nat) (ρ:Nat->Value) (s:GS) (tmps:Array Value) (fn:Func),fn.results=rs->HpOk base ρ s σ.hp->(∀t av,CA σ.fr t=some av->AVr σ.hp.length ρ s av (tmps.getD t undef))->∃v,(results fn tmps).run P s.w = .ok v s.w/\r.rel s v
theorem It{α β γ:Type}(r:Result α)(f:α->World->Result β)(g:β->World->Result γ):(r.andThen f).andThen g=r.andThen λa w=>(f a w).andThen g:=by cases r<;>rfl
theorem NI{fn:Func}{rv:ResultVar}(h:fn.results=#[rv]){tmps:Array Value}{P:Program}{w:World}{v:Value}(hv:(DD tmps rv).run P w = .ok v w):(results fn tmps).run P w = .ok v w:=by
 unfold results
 rw [h]
 cases rv with
 | tmp t=>simp [DD] at hv ⊢;exact hv
 | cell a T=>simp [DD] at hv ⊢;exact hv
theorem Vr{fn:Func}{rv rv':ResultVar}(h:fn.results=#[rv,rv']){tmps:Array Value}{P:Program}{w:World}{v v':Value}(hv:(DD tmps rv).run P w = .ok v w)(hv':(DD tmps rv').run P w = .ok v' w):(results fn tmps).run P w = .ok (.tuple #[v,v']) w:=by
 have key:(results fn tmps).run P w=((DD tmps rv).run P w).andThen λa w'=>((DD tmps rv').run P w').andThen λb w''=>.ok (.tuple #[a,b]) w'':=by
  unfold results
  rw [h]
  cases rv<;>cases rv'<;>simp [DD,It]
 rw [key,hv,Result.andThen_ok,hv',Result.andThen_ok]
theorem Rets.of1{P:Program}{σ:AS}{rv:ResultVar}{x r:D}(h:ResV P σ rv x)(hl:D.le x r):Rets P σ #[rv] r:=⟨λbase ρ s tmps fn hf hh hfr=>by
 obtain ⟨v,h1,h2⟩:=h.run base ρ s tmps hh hfr
 exact ⟨v,NI hf h1,hl s v h2⟩⟩
theorem BV{P:Program}{σ:AS}{rv rv':ResultVar}{x y r:D}(h:ResV P σ rv x)(h':ResV P σ rv' y)(hl:D.le (CK [x,y]) r):Rets P σ #[rv,rv'] r:=⟨λbase ρ s tmps fn hf hh hfr=>by
 obtain ⟨v,h1,h2⟩:=h.run base ρ s tmps hh hfr
 obtain ⟨v',h3,h4⟩:=h'.run base ρ s tmps hh hfr
 refine ⟨_,Vr hf h1 h3,hl s _ ⟨_,rfl,rfl,λk hk=>?_⟩⟩
 match k,hk with
 | 0,_=>exact ⟨_,rfl,h2⟩
 | 1,_=>exact ⟨_,rfl,h4⟩
 | k+2,hk=>exact absurd hk (by simp)⟩
theorem Rets.one{P:Program}{σ:AS}{t:Nat}{x r:D}{av:AV}(h:CA σ.fr t=some av)(hx:Ew σ.hp av=some x)(hl:D.le x r):Rets P σ #[.tmp t] r:=.of1 (.tmp h hx) hl
structure Fin(P:Program)(fn:Func)(r:D)(e:Exit)(σ:AS):Prop where
 how:e = .ret\/e = .normal
 res:Rets P σ fn.results r
theorem Bf{P:Program}{fn:Func}{r:D}{σ:AS}(h:Rets P σ fn.results r):Fin P fn r .ret σ:=⟨.inl rfl,h⟩
theorem Abs.intro{P:Program}{f:FuncId}{fn:Func}{c:Code}{ds:List D}{r:D}(hf:P.funcs[f]? = some fn)(hb:fn.body=some c)(hcf:∀args w,(callFunc f args).run P w = .ok (.enter f args) w)(hn:Nat.ble ds.length fn.ntmps=true)
  (h:∀s0,AWp P s0 fn.ntmps c (Fin P fn r) ⟨params 0 ds,[]⟩):Abs P f ds r:=by
 refine ⟨hcf,λs vs hok hl hv=>calls_of_wp hf hb ?_⟩
 have hn':ds.length<=fn.ntmps:=by simpa [Nat.ble_eq] using hn
 refine wp_mono ((h ⟨s,λ_=>False⟩).run { tmps:=vs.toArray++Array.replicate (fn.ntmps-vs.toArray.size) undef,defers:=[] } s.w ⟨s,λ_=>undef,rfl,GS.LeX.refl _ s,hok,λt av ht=>?_,by simp;omega,rfl,(λi o hi=>by cases hi),(λi j o o' _ hi=>by cases hi),(λi o b hi=>by cases hi)⟩) ?_
 .obtain ⟨_,h2,h3⟩:=Kz ht
  rw [Nat.sub_zero] at h2 h3
  subst h3
  have h4:=hv t h2
  show (Cj ds t).rel s ((vs.toArray++Array.replicate (fn.ntmps-vs.toArray.size) undef).getD t undef)
  have:(vs.toArray++Array.replicate (fn.ntmps-vs.toArray.size) undef).getD t undef=vs.getD t undef:=by
   rw [Array.getD_eq_getD_getElem?,Array.getElem?_append_left (by simp;omega)]
   simp
  rw [this]
  exact h4
 .intro e a w ⟨τ,⟨he,hR⟩,s',ρ,hw,hst⟩
  subst hw
  obtain ⟨v,h1,h2⟩:=hR.run _ ρ s' a.tmps fn rfl hst.hp hst.fr
  rcases he with rfl | rfl
  .exact ⟨hst.df,v,h1,v,rfl,s',rfl,hst.le.le λ_ h=>h,h2⟩
  .exact ⟨hst.df,v,h1,v,rfl,s',rfl,hst.le.le λ_ h=>h,h2⟩
inductive HR
 | av (r:AV)
 | new (T:TypeId) (cs:List Value)
def HR.val:HR->AV
 | .av r=>r
 | .new _ _=>.d Dp
def MK(σ:AS)(rs:List HR)(es:List (Nat×Nat)):Operand->AV
 | .tmp t=>match es.find? (λp=>p.1==t) with
  | some p=>match rs[p.2]? with
   | some h=>h.val
   | none=>.d Dp
  | none=>(CA σ.fr t).getD (.d Dp)
 | .global _=>.d Dp
 | x=>σ.arg x
def HStep(P:Program)(σ:AS)(rs:List HR)(es:List (Nat×Nat))(o:Oper):HR->Prop
 | .av r=>(o.guard=none/\Quiet P σ.hp o (MK σ rs es) r)\/∃j b u,o.guard=some (j,b)/\rs[j]? = some (.av (.d (ex u)))/\((u = .bool b/\Quiet P σ.hp o (MK σ rs es) r)\/(u ≠ .bool b/\r = .d (ex undef)))
 | .new T cs=>o.guard=none/\o.op = .alloc T/\T≠108/\Gg cs=true/\∃d n b z,Tab P T d n b z/\z.cells.toList=cs
def HSteps(P:Program)(σ:AS)(rs:List HR):List Oper->List (List (Nat×Nat))->List HR->Prop
 | o::L,x::S,r::T=>HStep P σ rs x o r/\HSteps P σ rs L S T
 | _,[],[]=>True
 | _,_,_=>False
theorem HSteps.nil{P:Program}{σ:AS}{rs:List HR}{L:List Oper}:HSteps P σ rs L [] []:=by cases L<;>trivial
theorem HSteps.cons{P:Program}{σ:AS}{rs:List HR}{o:Oper}{L:List Oper}{x:List (Nat×Nat)}{S:List (List (Nat×Nat))}{r:HR}{T:List HR}(h:HStep P σ rs x o r)(hs:HSteps P σ rs L S T):HSteps P σ rs (o::L) (x::S) (r::T):=⟨h,hs⟩
theorem US{P:Program}{σ:AS}{rs:List HR}{es:List (Nat×Nat)}{o:Oper}{r:AV}(hg:o.guard=none)(h:Quiet P σ.hp o (MK σ rs es) r):HStep P σ rs es o (.av r):=.inl ⟨hg,h⟩
theorem ZS{P:Program}{σ:AS}{rs:List HR}{es:List (Nat×Nat)}{o:Oper}{r:AV}{j:Nat}{b:Bool}(hg:o.guard=some (j,b))(hj:rs[j]? = some (.av (.d (ex (.bool b)))))(h:Quiet P σ.hp o (MK σ rs es) r):HStep P σ rs es o (.av r):=.inr ⟨j,b,.bool b,hg,hj,.inl ⟨rfl,h⟩⟩
theorem ZT{P:Program}{σ:AS}{rs:List HR}{es:List (Nat×Nat)}{o:Oper}{j:Nat}{b:Bool}{u:Value}(hg:o.guard=some (j,b))(hj:rs[j]? = some (.av (.d (ex u))))(hne:isB u b=false):HStep P σ rs es o (.av (.d (ex undef))):=.inr ⟨j,b,u,hg,hj,.inr ⟨YN hne,rfl⟩⟩
theorem HStep.n{P:Program}{σ:AS}{rs:List HR}{es:List (Nat×Nat)}{o:Oper}{T n b:Nat}{d:TypeDesc}{z:Value}(hg:o.guard=none)(ht:Tab P T d n b z)(hop:o.op = .alloc T)(hT:T≠108)(h1:Gg z.cells.toList=true):HStep P σ rs es o (.new T z.cells.toList):=⟨hg,hop,hT,h1,d,n,b,z,ht,rfl⟩
def AS.aft(σ:AS):List Oper->List HR->AS
 | o::L,.av r::rs=>AS.aft (σ.put o.dst r) L rs
 | o::L,.new T cs::rs=>AS.aft (σ.new o.dst (.ptr σ.hp.length 0) (.var T (Xu cs))) L rs
 | _,_=>σ
def HFact(m:Nat)(ρ:Nat->Value)(W:Nat)(i:Nat):HR->Value->GS->Prop
 | .av r=>λv s=>AVr m ρ s r v
 | .new T cs=>λv s=>∃b,v = .pointer (some ⟨b,0,none⟩)/\W<=b/\s.w.heap[b]? = some (.cells cs.toArray T (0,0))/\(∀k,¬s.S b k)/\s.tag b=i+1/\T≠108/\Gg cs=true
theorem HFact.st{m:Nat}{ρ:Nat->Value}{W i:Nat}{r:HR}:RegG.Stab (HFact m ρ W i r):=λv s s' hl h=>by
 cases r with
 | av r=>exact AVr.chg h hl.chg
 | new T cs=>
  obtain ⟨b,h1,h2,h3,h4,h5,h6,h7⟩:=h
  exact ⟨b,h1,h2,(hl.ext.block (AU h3)).trans h3,λk hk=>h4 k (hl.old b k (AU h3) hk),(hl.tag b (AU h3)).trans h5,h6,h7⟩
def facts(m:Nat)(ρ:Nat->Value)(W:Nat):Nat->List HR->List RegG.VFact
 | _,[]=>[]
 | i,r::rs=>HFact m ρ W i r::facts m ρ W (i+1) rs
theorem Wh{m:Nat}{ρ:Nat->Value}{W:Nat}:∀{rs:List HR} {i j:Nat} {F:RegG.VFact},(facts m ρ W i rs)[j]? = some F->∃r,rs[j]? = some r/\F=HFact m ρ W (i+j) r
 | [],i,j,F,h=>by cases h
 | r::rs,i,0,F,h=>by cases h;exact ⟨r,rfl,rfl⟩
 | r::rs,i,j+1,F,h=>by
  obtain ⟨r',h1,h2⟩:=Wh (i:=i+1) (by simpa [facts] using h)
  exact ⟨r',by simpa using h1,by rw [h2];congr 1;omega⟩
theorem Jz{m:Nat}{ρ:Nat->Value}{W:Nat}:∀{rs:List HR} {i j:Nat} {r:HR},rs[j]? = some r->(facts m ρ W i rs)[j]? = some (HFact m ρ W (i+j) r)
 | [],i,j,r,h=>by cases h
 | x::rs,i,0,r,h=>by cases h;rfl
 | x::rs,i,j+1,r,h=>by
  have:=Jz (m:=m) (ρ:=ρ) (W:=W) (i:=i+1) (by simpa using h:rs[j]? = some r)
  simp only [facts,List.getElem?_cons_succ,this]
  congr 2
  omega
theorem Mp{m:Nat}{ρ:Nat->Value}{W:Nat}:∀(rs:List HR) (i:Nat),RegG.StabAll (facts m ρ W i rs)
 | [],_=>trivial
 | _::rs,i=>⟨HFact.st,Mp rs (i+1)⟩
theorem NZ{m:Nat}{ρ:Nat->Value}{W:Nat}:∀(rs:List HR) (i:Nat),(facts m ρ W i rs).length=rs.length
 | [],_=>rfl
 | _::rs,i=>by simp [facts,NZ rs (i+1)]
theorem Ta{s0:An}{n:Nat}{s':GS}{m W:Nat}{ρ0:Nat->Value}{g:Nat->Value}:∀{L:List Oper} {rs:List HR} {i:Nat} {σ:AS} {a:Act} {ρ:Nat->Value},L.length=rs.length->StI s0 n σ a s' ρ->m<=σ.hp.length->(∀j,j<m->ρ j=ρ0 j)->s0.g.w.heap.size<=W ->
  (∀k o b,σ.hp[k]? = some o->OwB s' (ρ k) o b->b<W\/∃j,j<i/\s'.tag b=j+1)->(∀(j:Nat) r,rs[j]? = some r->HFact m ρ0 W (i+j) r (g (i+j)) s')->EO L L.length n=true->∃ρ',StI s0 n (σ.aft L rs) (CM g L i a) s' ρ'
 | [],[],i,σ,a,ρ,_,h,_,_,_,_,_,_=>⟨ρ,h⟩
 | [],_::_,_,_,_,_,hl,_,_,_,_,_,_,_=>by simp at hl
 | _::_,[],_,_,_,_,hl,_,_,_,_,_,_,_=>by simp at hl
 | o::L,r::rs,i,σ,a,ρ,hl,h,hm,hρ,hW,hb,hf,hd=>by
  have hd1:∀d,o.dst=some d->d<n:=λd hdo=>by
   have h2:=List.all_eq_true.1 hd o (by simp)
   simp only [hdo,decide_eq_true_eq] at h2
   exact h2
  have hd2:EO L L.length n=true:=List.all_eq_true.2 λx hx=>List.all_eq_true.1 hd x (by simp at hx ⊢;exact .inr hx)
  have hf0:=hf 0 r rfl
  rw [Nat.add_zero] at hf0
  have hf':∀(j:Nat) r',rs[j]? = some r'->HFact m ρ0 W (i+1+j) r' (g (i+1+j)) s':=λj r' hj=>by
   have:=hf (j+1) r' (by simpa using hj)
   rw [show i+(j+1)=i+1+j by omega] at this
   exact this
  cases r with
  | av r=>
   have h1:=h.put (GS.Le.refl s') hd1 (v:=g i) (r:=r) (hf0.mono hm hρ)
   refine Ta (L:=L) (rs:=rs) (i:=i+1) (by simpa using hl) h1 ?_ hρ hW ?_ hf' hd2
   .cases hdo:o.dst<;>exact hm
   .intro k o' b hk hv
    have hk':σ.hp[k]? = some o':=by cases hdo:o.dst<;>(rw [hdo] at hk;exact hk)
    rcases hb k o' b hk' hv with h2 | ⟨j,h2,h3⟩
    .exact .inl h2
    .exact .inr ⟨j,by omega,h3⟩
  | new T cs=>
   obtain ⟨b,e1,e2,e3,e4,e5,e6,e7⟩:=hf0
   have h1:=h.newG (GS.Le.refl s') hd1 (v:=g i) (u:=.pointer (some ⟨b,0,none⟩)) (r:=.ptr σ.hp.length 0) (ow:=.var T (Xu cs)) ⟨by omega,b,by simp,e1⟩ ?_ ?_ (λb' hb'=>by cases hb';exact .inr (Nat.le_trans hW e2))
   .refine Ta (L:=L) (rs:=rs) (i:=i+1) (by simpa using hl) h1 (by show m<=(σ.hp++[_]).length; simp; omega) (λj hj=>by rw [if_neg (by omega)]; exact hρ j hj) hW ?_ hf' hd2
    intro k o' b' hk hv
    replace hk:(σ.hp++[Ow.var T (Xu cs)])[k]? = some o':=hk
    rw [List.getElem?_append] at hk
    split at hk
    .rename_i hlt
     rw [if_neg (by omega)] at hv
     rcases hb k o' b' hk hv with h2 | ⟨j,h2,h3⟩
     .exact .inl h2
     .exact .inr ⟨j,by omega,h3⟩
    .rename_i hge
     have:k=σ.hp.length:=by
      have:=CD hk
      simp at this
      omega
     subst this
     rw [if_pos rfl] at hv
     have ho:o' = .var T (Xu cs):=by simp at hk;exact hk.symm
     subst ho
     cases hv
     exact .inr ⟨i,by omega,e5⟩
   .refine ⟨b, cs.toArray, by simp, Nat.zero_le _, e3, by simp [Xu], e6, e4, λk av hk=>?_⟩
    unfold Xu at hk
    rw [List.getElem?_map] at hk
    cases hz:cs[k]? with
    | none=>rw [hz] at hk;cases hk
    | some u=>
     rw [hz] at hk
     cases hk
     exact ⟨u,by simpa using hz,List.all_eq_true.1 e7 u (List.mem_of_getElem? hz),rfl⟩
   .intro b' hb' k o' hk hv
    cases hb'
    rcases hb k o' b hk hv with h2 | ⟨j,h2,h3⟩
    .omega
    .omega
structure DrawOk(P:Program)(s0:An)(n:Nat)(id:Nat)(L0:Array Oper)(L:List Oper)(Q0 Q:Exit->AS->Prop):Prop where
 run:∀(a:Act) (w:World),wpAny P .any L.toArray (IH s0 n Q) L.toArray.size (Array.replicate L.toArray.size false) a w.drew->(Code.region id L0 true).wp P (IH s0 n Q0) a w
theorem RW{P:Program}{s0:An}{n:Nat}{id:Nat}{L:List Oper}{Q:Exit->AS->Prop}(hm:P.follows .mixedOrders=true):DrawOk P s0 n id L.toArray L Q Q:=⟨λ_ _ h=>wp_region_any hm h⟩
theorem A01{P:Program}{s0:An}{n:Nat}{Q Q0:Exit->AS->Prop}{σ:AS}{id:Nat}{L0:Array Oper}{L:List Oper}(hm:DrawOk P s0 n id L0 L Q0 Q)(es:List (List (Nat×Nat)))(bs:List (List Nat))(rs:List HR)(hlen:(es.length==bs.length&&es.length==rs.length&&Nat.ble rs.length L.length)=true)(hok:CG L (DU 0 es bs)=true)(hd:EO L es.length n=true)(steps:HSteps P σ rs L es rs)
  (tail:AWl P s0 n L.toArray Q (L.drop es.length) (σ.aft (L.take es.length) rs)):AWp P s0 n (.region id L0 true) Q0 σ:=by
 refine ⟨λa w ⟨s,ρ,hw,hst⟩=>?_⟩
 subst hw
 simp only [Bool.and_eq_true,beq_iff_eq,Nat.ble_eq] at hlen
 obtain ⟨⟨hl1,hl2⟩,hl3⟩:=hlen
 refine RegG.wp_region_v (hm.run a s.w) es bs (facts σ.hp.length ρ s.w.heap.size 0 rs) (by rw [NZ];simp [hl1,hl2];omega) hok (by rw [hst.sz];exact hd) (Mp rs 0) ?_ λg s' hE hF=>?_
 .have hle0:GS.Le s s.dr:=MZ s
  have step:∀(o:Oper) (x:List (Nat×Nat)) (r:HR) (i:Nat),HStep P σ rs x o r->RegG.UStep P (facts σ.hp.length ρ s.w.heap.size 0 rs) a s.dr o x (HFact σ.hp.length ρ s.w.heap.size i r):=by
   intro o x r i hr s1 ev hE hk ha hc hf
   have hle:GS.Le s s1:=hle0.trans hE
   have hhp:=hst.hp.le hle
   have hok1:=hle.ok hst.ok
   have hbase:0<=s1.w.heap.size:=Nat.zero_le _
   have hknown:∀(x:List (Nat×Nat)),RegG.OpsKnown (facts σ.hp.length ρ s.w.heap.size 0 rs) ev s1 x->∀p∈x,∀F,(facts σ.hp.length ρ s.w.heap.size 0 rs)[p.2]? = some F->F (ev (.tmp p.1)) s1:=by
    intro x
    induction x with
    | nil=>intro _ p hp;cases hp
    | cons q x ih=>
     intro h p hp
     obtain ⟨t,j⟩:=q
     rcases List.mem_cons.1 hp with rfl | hp
     .exact h.1
     .exact ih h.2 p hp
   have hargs:∀y,y∈o.op.operands->AVr σ.hp.length ρ s1 (MK σ rs x y) (ev y):=by
    intro y _
    cases y with
    | tmp t=>
     show AVr _ ρ s1 (match x.find? (λp=>p.1==t) with
      | some p=>match rs[p.2]? with
       | some h=>h.val
       | none=>.d Dp
      | none=>(CA σ.fr t).getD (.d Dp)) _
     cases hfd:x.find? (λp=>p.1==t) with
     | some p=>
      have hp:p∈x:=List.mem_of_find?_eq_some hfd
      have hpt:p.1=t:=by simpa using List.find?_some hfd
      simp only
      cases hrp:rs[p.2]? with
      | none=>trivial
      | some h=>
       have h1:=hknown x hk p hp _ (Jz hrp)
       rw [hpt] at h1
       cases h with
       | av r=>exact h1
       | new T cs=>trivial
     | none=>
      simp only
      rw [ha t λp hp e=>by have:=List.find?_eq_none.1 hfd p hp;simp [e] at this]
      exact (hst.arg (.tmp t)).chg hle.chg
    | const v=>show ev _=v;exact hc v
    | global b=>
     trivial
    | func f=>show ev _=_;exact hf f
   cases r with
   | av r=>
    rcases hr with ⟨hg,hq⟩ | ⟨j,b,c,hg,hj,hq⟩
    .rw [hg]
     exact hq.run _ s1 ρ ev hok1 hbase hhp hargs
    .rw [hg]
     intro gv hgv
     have h1:=hgv _ (Jz hj)
     have e1:gv=c:=h1
     rcases hq with ⟨rfl,hq⟩ | ⟨hne,rfl⟩
     .exact ⟨λ_=>hq.run _ s1 ρ ev hok1 hbase hhp hargs,λh=>absurd e1 h⟩
     .exact ⟨λh=>by rw [e1] at h;exact absurd h hne,λ_=>rfl⟩
   | new T cs=>
    obtain ⟨hg,hop,hT,h1,d,k,b,z,ht,hz⟩:=hr
    rw [hg]
    subst hz
    have hrun:(execOp ev o).run P s1.w = .ok (.value (.pointer (some ⟨s1.w.heap.size,0,none⟩))) (s1.w.alloc (.cells z.cells T)):=by
     simp [execOp,hop,Instr.alloc,ht.run_zero,GJ]
    refine Us hrun (s1.mk' z.cells T (i+1)) rfl ⟨s1.le_mk' z.cells T (i+1) hT,s1.w.heap.size,rfl,hle.ext.size,heap_alloc_new s1.w _,λk hk=>absurd (hok1.lt _ _ hk) (Nat.lt_irrefl _),?_,hT,h1⟩
    show (if s1.w.heap.size=s1.w.heap.size then i+1 else _)=i+1
    rw [if_pos rfl]
  have all:∀(L:List Oper) (es:List (List (Nat×Nat))) (T:List HR) (i:Nat),HSteps P σ rs L es T->RegG.USteps P (facts σ.hp.length ρ s.w.heap.size 0 rs) a s.dr L es (facts σ.hp.length ρ s.w.heap.size i T):=by
   intro L
   induction L with
   | nil=>
    intro es T i h
    cases es with
    | nil=>cases T with
     | nil=>trivial
     | cons=>exact h.elim
    | cons=>cases T<;>exact h.elim
   | cons o L ih=>
    intro es T i h
    cases es with
    | nil=>cases T with
     | nil=>trivial
     | cons=>exact h.elim
    | cons x es=>cases T with
     | nil=>exact h.elim
     | cons r T=>exact ⟨step o x r i h.1,ih es T (i+1) h.2⟩
  exact all L es rs 0 steps
 .have hle:GS.Le s s':=(MZ s).trans hE
  have hst':StI s0 n σ a s' ρ:=hst.put hle (dst:=none) (λd hd=>by cases hd) (v:=undef) (r:=.d Dp) trivial
  have htl:(L.take es.length).length=rs.length:=by simp;omega
  obtain ⟨ρ',hfin⟩:=Ta (g:=g) (L:=L.take es.length) (rs:=rs) (i:=0) (W:=s.w.heap.size) (m:=σ.hp.length) (ρ0:=ρ) htl hst' (Nat.le_refl _) (λ_ _=>rfl) hst.le.size (λk o b hk hv=>.inl ((hst.hp k o hk).blk_lt0 (OwB.le (hst.hp k o hk) hle hv))) (λj r hj=>by
   rw [Nat.zero_add]
   have:=hF j _ (Jz hj)
   rwa [Nat.zero_add] at this) (by
   have:(L.take es.length).take (L.take es.length).length=L.take es.length:=List.take_length
   unfold EO
   rw [this]
   exact hd)
  exact tail.run _ _ ⟨s',ρ',rfl,hfin⟩
section
variable {P:Program} {s0:An} {n:Nat} {Q:Exit->AS->Prop} {σ:AS}
theorem Hd{next:AS->Prop}(h:next σ):AThen next Q .normal σ:=⟨h⟩
theorem AL{next:AS->Prop}(h:Q .ret σ):AThen next Q .ret σ:=⟨h⟩
theorem AA{next:AS->Prop}{i:Nat}(h:Q (.exit i) σ):AThen next Q (.exit i) σ:=⟨h⟩
theorem Ah{i:Nat}(h:Q .normal σ):ABlock i Q .normal σ:=⟨h⟩
theorem Bm{i:Nat}(h:Q .ret σ):ABlock i Q .ret σ:=⟨h⟩
theorem AB{i:Nat}(h:Q .normal σ):ABlock i Q (.exit i) σ:=⟨by
 show (if i=i then Q .normal σ else Q (.exit i) σ)
 rw [if_pos rfl]
 exact h⟩
theorem CH{I:Nat->AS->Prop}{m:Nat}(h:Q .ret σ):ALoop I m Q .ret σ:=⟨h⟩
theorem AF{I:Nat->AS->Prop}{m i:Nat}(h:Q (.exit i) σ):ALoop I m Q (.exit i) σ:=⟨h⟩
theorem ALoop.next{I:Nat->AS->Prop}{m:Nat}(m':Nat){τ:AS}(hm:m'<m)(hI:I m' τ)(hl:AS.le σ τ):ALoop I m Q .normal σ:=⟨m',hm,τ,hI,hl⟩
end
end Go.Proofs.YtnbfnoebjjdmnaaGreat
