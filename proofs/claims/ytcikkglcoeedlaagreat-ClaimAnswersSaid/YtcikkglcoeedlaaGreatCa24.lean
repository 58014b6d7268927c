/- Part 24 of the proof of claimAnswers_holds. No condition. -/
import Derived.Test.YtcikkglcoeedlaaGreatCa5
import Derived.Test.YtcikkglcoeedlaaGreatCa20
import Derived.Test.YtcikkglcoeedlaaGreatCa21
import Derived.Test.YtcikkglcoeedlaaGreatCa22
set_option linter.unusedSimpArgs false
set_option linter.unusedVariables false
set_option maxRecDepth 100000
namespace Go.Proofs.YtcikkglcoeedlaaGreat
variable{vl uf:List (List D)}{vX:List (Nat×Operand)}{b vk:Nat}{vg:Nat->Value}{va:Oper}{x y vN:Operand}{P:Program}{e:Type}{d:TypeDesc}{t U:TypeId}{z v:Value}{ut:e->List Nat}
section
open Go.RowKit
inductive HY
 |av (r:AV)
 |new (T:TypeId) (cs:List Value)
 |newS (T:TypeId) (k:Nat) (ds:List D)
 |st (j:Nat)
def HY.hr:HY->HR
 |.av r=>.av r
 |_=>.av (.d Cs)
def HYStep(P:Program)(A:AS)(rs:List HY)(n:List (Nat×Nat))(i:Nat)(o:Oper):HY->Prop
 |.av r=>o.guard=none/\Quiet P A.hp o (Eu A (rs.map HY.hr) n) r
 |.new T a=>HStep P A [] n o (.new T a)
 |.newS T k R=>(∃a,HStep P A [] n o (.new T a)/\a.length=R.length)/\rs[k]? = some (.st i)
 |.st j=>o.guard=none/\o.dst=none/\∃T x y h R d b z,o.op=.store T (.tmp x) y/\(x,j)∈n/\rs[j]? = some (.newS h i R)/\Eu A (rs.map HY.hr) n y=.d (AJ R)/\Tab P T d R.length b z
def HYSteps(P:Program)(d:AS)(rs:List HY):Nat->List Oper->List (List (Nat×Nat))->List HY->Prop
 |i,o::L,x::S,r::T=>HYStep P d rs x i o r/\HYSteps P d rs (i+1) L S T
 |_,[],[],[]=>True
 |_,_,_,_=>False
theorem HYSteps.at{P:Program}{σ:AS}{rs:List HY}:∀{L:List Oper} {S:List (List (Nat×Nat))} {T:List HY} {i:Nat},HYSteps P σ rs i L S T->L.length=S.length/\L.length=T.length/\∀(k:Nat) o x r,L[k]? = some o->S[k]? = some x->T[k]? = some r->HYStep P σ rs x (i+k) o r
 |[],[],[],i,_=>⟨rfl,rfl,λk o x r h=>by simp at h⟩
 |[],[],_::_,i,h=>h.elim
 |[],_::_,T,i,h=>by cases T<;>exact h.elim
 |_::_,[],T,i,h=>by cases T<;>exact h.elim
 |_::_,_::_,[],i,h=>h.elim
 |o::L,x::S,r::T,i,⟨A,B⟩=>by
  obtain⟨c,v,G⟩:=HYSteps.at B;refine⟨by simp[c],by simp[v],λk l I F C E b=>?_⟩
  cases k with
  |zero=>
   simp at C E b;subst C;subst E;subst b;exact A
  |succ k=>
   simp at C E b;have:=G k l I F C E b;rw[show i+(k+1)=i+1+k by omega];exact this
def AS.aftS(d:AS):List Oper->List HY->AS
 |o::L,.av r::X=>AS.aftS (d.put o.dst r) L X
 |o::L,.new T a::X=>AS.aftS (d.new o.dst (.ptr d.hp.length 0) (.var T (Wf a))) L X
 |o::L,.newS T _ R::X=>AS.aftS (d.new o.dst (.ptr d.hp.length 0) (.var T (R.map .d))) L X
 |_::L,.st _::X=>AS.aftS d L X
 |_,_=>d
def SFact(m:Nat)(ρ:Nat->Value)(W:Nat)(done:Nat->Bool)(i:Nat):HY->Value->GS->Prop
 |.av r=>λv s=>AVr m ρ s r v
 |.new T a=>HFact m ρ W i (.new T a)
 |.newS T k R=>λv s=>∃b a,v=.pointer (some ⟨b,0,none⟩)/\W<=b/\s.w.heap[b]? = some (.cells a T (0,0))/\(∀k,¬s.S b k)/\s.tag b=i+1/\T≠335/\a.size=R.length/\(done k=true->∀j,j<R.length->∃u,a[j]? = some u/\u.oneCell'=true/\(Dd R j).rel s u)
 |.st _=>λ_ _=>True
theorem SFact.st{m:Nat}{ρ:Nat->Value}{W i:Nat}{done I:Nat->Bool}{r:HY}{v:Value}{s s':GS}(K:GS.Le s s')(C:∀T k R,r=.newS T k R->I k=done k)(h:SFact m ρ W done i r v s):SFact m ρ W I i r v s':=by
 cases r with
 |av r=>exact AVr.chg h K.chg
 |new T a=>exact HFact.st (m:=m) (ρ:=ρ) (W:=W) (i:=i) (r:=.new T a) v s s' K h
 |newS T k R=>
  obtain⟨b,a,A,B,L,V,E,z,d,G⟩:=h;refine⟨b,a,A,B,(K.ext.block (Bm L)).trans L,λk C=>V k (K.old b k (Bm L) C),(K.tag b (Bm L)).trans E,z,d,λZ j e=>?_⟩;rw[C T k R rfl]at Z;obtain⟨u,c,F,x⟩:=G Z j e;exact⟨u,c,F,(Dd R j).st x K.chg⟩
 |st j=>trivial
theorem SFact.turn{m:Nat}{W i g tg:Nat}{done X:Nat->Bool}{r:HY}{v:Value}{s s':GS}(I:GS.Chg s s')(S:∀b,b≠g->s'.w.heap[b]? = s.w.heap[b]?)(N:∀b k,s'.S b k->s.S b k)(J:∀b,s'.tag b=s.tag b)(M:s.tag g=tg+1)(Q:i≠tg)(C:∀T k R,r=.newS T k R->X k=done k)(h:SFact m vg W done i r v s):SFact m vg W X i r v s':=by
 cases r with
 |av r=>exact AVr.chg h I
 |new T a=>
  obtain⟨b,A,B,L,V,G,z,d⟩:=h;have F:b≠g:=λe=>by rw[e,M]at G;omega
  exact⟨b,A,B,(S b F).trans L,λk C=>V k (N b k C),(J b).trans G,z,d⟩
 |newS T k R=>
  obtain⟨b,a,A,B,L,V,G,z,d,O⟩:=h;have F:b≠g:=λe=>by rw[e,M]at G;omega
  refine⟨b,a,A,B,(S b F).trans L,λk C=>V k (N b k C),(J b).trans G,z,d,λZ j E=>?_⟩;rw[C T k R rfl]at Z;obtain⟨u,c,K,x⟩:=O Z j E;exact⟨u,c,K,(Dd R j).st x I⟩
 |st j=>trivial
theorem LS{s0:An}{n:Nat}{s':GS}{m W:Nat}{ρ0:Nat->Value}{g:Nat->Value}:∀{L:List Oper} {rs:List HY} {i:Nat} {σ:AS} {a:Act} {ρ:Nat->Value},L.length=rs.length->StI s0 n σ a s' ρ->m<=σ.hp.length->(∀j,j<m->ρ j=ρ0 j)->s0.g.w.heap.size<=W ->
  (∀k o b,σ.hp[k]? = some o->OwB s' (ρ k) o b->b<W\/∃j,j<i/\s'.tag b=j+1)->(∀(j:Nat) r,rs[j]? = some r->SFact m ρ0 W (λ_=>true) (i+j) r (g (i+j)) s')->(∀(j:Nat) o k,L[j]? = some o->rs[j]? = some (.st k)->o.dst=none)->(∀o∈L,∀d,o.dst=some d->d<n)->∃ρ',StI s0 n (σ.aftS L rs) (EG g L i a) s' ρ'
 | [],[],i,σ,a,ρ,_,h,_,_,_,_,_,_,_=>⟨ρ,h⟩
 | [],_::_,_,_,_,_,hl,_,_,_,_,_,_,_,_=>by simp at hl
 | _::_,[],_,_,_,_,hl,_,_,_,_,_,_,_,_=>by simp at hl
 | o::L,r::rs,i,σ,a,ρ,hl,h,hm,hρ,hW,hb,hf,hst,hd=>by
  have hd1:∀d,o.dst=some d->d<n:=hd o (by simp)
  have hd2:∀o∈L,∀d,o.dst=some d->d<n:=λo ho=>hd o (by simp [ho])
  have hst2:∀(j:Nat) o k,L[j]? = some o->rs[j]? = some (.st k)->o.dst=none:=λj o k h1 h2=>hst (j+1) o k (by simpa using h1) (by simpa using h2)
  have hf0:=hf 0 r rfl
  rw [Nat.add_zero] at hf0
  have hf':∀(j:Nat) r',rs[j]? = some r'->SFact m ρ0 W (λ_=>true) (i+1+j) r' (g (i+1+j)) s':=λj r' hj=>by
   have:=hf (j+1) r' (by simpa using hj)
   rw [show i+(j+1)=i+1+j by omega] at this
   exact this
  have hbn:∀(b:Nat) (T:TypeId) (c:List AV),s'.tag b=i+1->∀(k:Nat) o' b',(σ.hp++[Ow.var T c])[k]? = some o'->OwB s' (if k=σ.hp.length then .pointer (some ⟨b,0,none⟩) else ρ k) o' b'->b'<W\/∃j,j<i+1/\s'.tag b'=j+1:=by
   intro b T c e5 k o' b' hk hv
   rw [List.getElem?_append] at hk
   split at hk
   .rename_i hlt
    rw [if_neg (by omega)] at hv
    rcases hb k o' b' hk hv with h2 | ⟨j,h2,h3⟩
    .exact .inl h2
    .exact .inr ⟨j,by omega,h3⟩
   .rename_i hge
    have:k=σ.hp.length:=by
     have:=Ca hk
     simp at this
     omega
    subst this
    rw [if_pos rfl] at hv
    have ho:o' = .var T c:=by simp at hk;exact hk.symm
    subst ho
    cases hv
    exact .inr ⟨i,by omega,e5⟩
  have hsep:∀(b:Nat) (T:TypeId) (c:List AV),W<=b->s'.tag b=i+1->∀b',OwB s' (.pointer (some ⟨b,0,none⟩)) (.var T c) b'->∀k o',σ.hp[k]? = some o'->¬OwB s' (ρ k) o' b':=by
   intro b T c e2 e5 b' hb' k o' hk hv
   cases hb'
   rcases hb k o' b hk hv with h2 | ⟨j,h2,h3⟩
   .omega
   .omega
  cases r with
  | av r=>
   have h1:=h.put (GS.Le.refl s') hd1 (v:=g i) (r:=r) (AVr.mono hf0 hm hρ)
   refine LS (L:=L) (rs:=rs) (i:=i+1) (by simpa using hl) h1 ?_ hρ hW ?_ hf' hst2 hd2
   .cases hdo:o.dst<;>exact hm
   .intro k o' b hk hv
    have hk':σ.hp[k]? = some o':=by cases hdo:o.dst<;>(rw [hdo] at hk;exact hk)
    rcases hb k o' b hk' hv with h2 | ⟨j,h2,h3⟩
    .exact .inl h2
    .exact .inr ⟨j,by omega,h3⟩
  | st j=>
   have hdn:o.dst=none:=hst 0 o j rfl rfl
   have ha:EG g (o::L) i a=EG g L (i+1) a:=by show EG g L (i+1) (a.put o.dst (g i))=_;rw [hdn];rfl
   rw [ha]
   refine LS (L:=L) (rs:=rs) (i:=i+1) (by simpa using hl) h hm hρ hW ?_ hf' hst2 hd2
   intro k o' b hk hv
   rcases hb k o' b hk hv with h2 | ⟨j,h2,h3⟩
   .exact .inl h2
   .exact .inr ⟨j,by omega,h3⟩
  | new T cs=>
   obtain ⟨b,e1,e2,e3,e4,e5,e6,e7⟩:=hf0
   have h1:=h.newG (GS.Le.refl s') hd1 (v:=g i) (u:=.pointer (some ⟨b,0,none⟩)) (r:=.ptr σ.hp.length 0) (ow:=.var T (Wf cs)) ⟨by omega,b,by simp,e1⟩ ?_ (hsep b T _ e2 e5) (λb' hb'=>by cases hb';exact .inr (Nat.le_trans hW e2))
   .exact LS (L:=L) (rs:=rs) (i:=i+1) (by simpa using hl) h1 (by show m<=(σ.hp++[_]).length;simp;omega) (λj hj=>by rw [if_neg (by omega)];exact hρ j hj) hW (hbn b T _ e5) hf' hst2 hd2
   .refine ⟨b, cs.toArray, by simp, Nat.zero_le _, e3, by simp [Wf], e6, e4, λk av hk=>?_⟩
    unfold Wf at hk
    rw [List.getElem?_map] at hk
    cases hz:cs[k]? with
    | none=>rw [hz] at hk;cases hk
    | some u=>
     rw [hz] at hk
     cases hk
     exact ⟨u,by simpa using hz,List.all_eq_true.1 e7 u (List.mem_of_getElem? hz),rfl⟩
  | newS T k0 ds=>
   obtain ⟨b,cs,e1,e2,e3,e4,e5,e6,e7,e8⟩:=hf0
   have h1:=h.newG (GS.Le.refl s') hd1 (v:=g i) (u:=.pointer (some ⟨b,0,none⟩)) (r:=.ptr σ.hp.length 0) (ow:=.var T (ds.map .d)) ⟨by omega,b,by simp,e1⟩ ?_ (hsep b T _ e2 e5) (λb' hb'=>by cases hb';exact .inr (Nat.le_trans hW e2))
   .exact LS (L:=L) (rs:=rs) (i:=i+1) (by simpa using hl) h1 (by show m<=(σ.hp++[_]).length;simp;omega) (λj hj=>by rw [if_neg (by omega)];exact hρ j hj) hW (hbn b T _ e5) hf' hst2 hd2
   .refine ⟨b, cs, by simp, Nat.zero_le _, e3, by simp [e7], e6, e4, λk av hk=>?_⟩
    rw [List.getElem?_map] at hk
    cases hz:ds[k]? with
    | none=>rw [hz] at hk;cases hk
    | some u=>
     rw [hz] at hk
     cases hk
     obtain ⟨x,q1,q2,q3⟩:=e8 rfl k (List.getElem?_eq_some_iff.1 hz).1
     refine ⟨x,q1,q2,?_⟩
     have:Dd ds k=u:=by simp [Dd,hz]
     rw [this] at q3
     exact q3
def A5J(L:List Oper)(A:List (List (Nat×Nat)))(n:Nat):Bool:=
 (List.range L.length).all λi=>match L[i]?,A[i]? with
  |some o,some e=>BI o.op&&((Bu o).all λk=>decide (k<i))&&(e.all λp=>(Bu o).contains p.2&&(match L[p.2]? with |some l=>l.dst==some p.1 |none=>false)) &&
   (o.op.operands.all λy=>match y with | .tmp t=>(e.any λp=>p.1==t)||(L.all λl=>l.dst != some t) | _=>true) &&
   (match o.dst with | none=>true | some d=>decide (d<n)&&((List.range L.length).all λj=>j==i||(match L[j]? with | some l=>l.dst != some d | none=>true)))
  |_,_=>false
structure ChkS(L:List Oper)(n i:Nat)(o:Oper)(e:List (Nat×Nat)):Prop where
 ns:BI o.op=true
 lt:∀k∈Bu o,k<i
 env:∀p∈e,p.2∈Bu o/\∃o',L[p.2]? = some o'/\o'.dst=some p.1
 out:∀t,Operand.tmp t∈o.op.operands->(∃p∈e,p.1=t)\/∀o'∈L,o'.dst≠some t
 dst:∀d,o.dst=some d->d<n/\∀(j:Nat) o',L[j]? = some o'->o'.dst=some d->j=i
theorem HW{L:List Oper}{E:List (List (Nat×Nat))}{n:Nat}(h:A5J L E n=true){i:Nat}(o:L[i]? = some va):∃e,E[i]? = some e/\ChkS L n i va e:=by
 have A:=List.all_eq_true.1 h i (List.mem_range.2 (List.getElem?_eq_some_iff.1 o).1);rw[o]at A
 cases X:E[i]? with
 |none=>rw[X]at A;cases A
 |some e=>
  rw[X]at A;simp only[Bool.and_eq_true]at A;obtain⟨⟨⟨⟨a,g⟩,I⟩,Q⟩,K⟩:=A;refine⟨e,rfl,a,λk C=>by simpa using List.all_eq_true.1 g k C,λp G=>?_,λt J=>?_,λd Z=>?_⟩
  .have:=List.all_eq_true.1 I p G
   exact ZaR
  .have:=(Array.all_eq_true'.1 Q) _ J
   simp only[Bool.or_eq_true]at this;rcases this with B | B
   .obtain ⟨p,G,c⟩:=List.any_eq_true.1 B
    exact .inl ⟨p,G,by simpa using c⟩
   .exact .inr λl F=>by simpa using List.all_eq_true.1 B l F
  .rw [Z]at K
   simp only[Bool.and_eq_true,decide_eq_true_eq]at K;refine⟨K.1,λj l F M=>?_⟩;have:=List.all_eq_true.1 K.2 j (List.mem_range.2 (List.getElem?_eq_some_iff.1 F).1);rw[F]at this;simpa[M]using this
structure SInvY(σ:AS)(L:List Oper)(rs:List HY)(ρ:Nat->Value)(s:GS)(a:Act)(listed:Array Bool)(g:Nat->Value)(a':Act)(s':GS):Prop where
 le:GS.Le s.dr s'
 asz:a'.tmps.size=a.tmps.size
 adef:a'.defers=a.defers
 closed:∀j o,L[j]? = some o->listed.getD j false=true->∀e∈Bu o,listed.getD e false=true
 a1:∀j o d,L[j]? = some o->listed.getD j false=true->o.dst=some d->a'.tmps[d]? = some (g j)
 a2:∀t,(∀j o,L[j]? = some o->listed.getD j false=true->o.dst≠some t)->a'.tmps[t]? = a.tmps[t]?
 facts:∀j r,rs[j]? = some r->listed.getD j false=true->SFact σ.hp.length ρ s.w.heap.size (λk=>listed.getD k false) j r (g j) s'
theorem SInvY.put{σ:AS}{L:List Oper}{rs:List HY}{s:GS}{a:Act}{listed:Array Bool}{g:Nat->Value}{Q:Act}{s1 s2:GS}{n i:Nat}{e:List (Nat×Nat)}(F:SInvY σ L rs vg s a listed g Q s1)(E:a.tmps.size=n)(G:listed.size=L.length)(o:L[i]? = some va)(I:ChkS L n i va e)(W:listed.getD i false=false)(V:∀e∈Bu va,listed.getD e false=true){v:Value}(f:GS.Le s.dr s2)
  (p:∀j r,rs[j]? = some r->j≠i->listed.getD j false=true->SFact σ.hp.length vg s.w.heap.size (λk=>(listed.setIfInBounds i true).getD k false) j r (g j) s2) (M:∀r,rs[i]? = some r->SFact σ.hp.length vg s.w.heap.size (λk=>(listed.setIfInBounds i true).getD k false) i r v s2) :
  SInvY σ L rs vg s a (listed.setIfInBounds i true) (λk=>if k=i then v else g k) (Q.put va.dst v) s2:=by
 have P:i<listed.size:=by rw[G];exact(List.getElem?_eq_some_iff.1 o).1
 have m:∀j,(listed.setIfInBounds i true).getD j false=true->j≠i->listed.getD j false=true:=λj h A=>by
  rw[getD_set_ne false (λe=>A e.symm)]at h;exact h
 refine⟨f,?_,?_,λj R w K k C=>?_,λj R d w K Y=>?_,λt J=>?_,λj r b K=>?_⟩
 .unfold Act.put;split<;>simp[F.asz]
 .unfold Act.put;split<;>simp[F.adef]
 .by_cases X:j=i
  .subst X
   obtain rfl:R=va:=Option.some.inj (w.symm.trans o);exact getD_set_true (V k C)
  .exact getD_set_true (F.closed j R w (m j K X) k C)
 .by_cases X:j=i
  .subst X
   obtain rfl:R=va:=Option.some.inj (w.symm.trans o);have H:d<Q.tmps.size:=by rw[F.asz,E];exact(I.dst d Y).1
   simp[Act.put,Y,H]
  .have Z:=m j K X
   have z:va.dst≠some d:=λO=>X ((I.dst d O).2 j R w Y);rw[if_neg X,<-F.a1 j R d w Z Y];unfold Act.put;split
   .rename_i S N
    have:S≠d:=λe=>z (by rw[N,e]);exact Zii
   .rfl
 .have B:va.dst≠some t:=J i va o (by simp [P])
  rw[<-F.a2 t λj R w K=>J j R w (getD_set_true K)];unfold Act.put;split
  .rename_i S N
   have:S≠t:=λe=>B (by rw[N,e]);exact Zii
  .rfl
 .by_cases X:j=i
  .subst X
   simp only[if_true];exact M r b
  .simp only[if_neg X]
   exact p j r b X (m j K X)
theorem A0R{P:Program}{s0:An}{n:Nat}{Q:Exit->AS->Prop}{σ:AS}{id:Nat}{L:List Oper}(hm:P.follows .mixedOrders=true)(es:List (List (Nat×Nat)))(rs:List HY)(hok:A5J L es n=true)(steps:HYSteps P σ rs 0 L es rs)(fin:Q .normal (σ.aftS L rs)):AWp P s0 n (.region id L.toArray true) Q σ:=by
 refine ⟨λa w ⟨s,ρ,hw,hst⟩=>?_⟩
 subst hw
 obtain ⟨hl1,hl2,hat⟩:=steps.at
 have hn:a.tmps.size=n:=hst.sz
 have hfz:∀j,(Array.replicate L.toArray.size false).getD j false=false:=λj=>by
  rcases Nat.lt_or_ge j L.length with h | h
  .simp [h]
  .simp [h]
 have hat':∀{i:Nat} {o:Oper} {e:List (Nat×Nat)},L[i]? = some o->es[i]? = some e->∃r,rs[i]? = some r/\HYStep P σ rs e i o r:=λ{i o e} ho he=>by
  have hi:=(List.getElem?_eq_some_iff.1 ho).1
  have hr:rs[i]? = some (rs[i]'(by omega)):=List.getElem?_eq_getElem _
  refine ⟨_,hr,?_⟩
  have:=hat i o e _ ho he hr
  rwa [Nat.zero_add] at this
 refine wp_region_any hm (Mx (λlisted a' w'=>∃g s',s'.w=w'/\SInvY σ L rs ρ s a listed g a' s') ?_ ?_ _ _ a s.w.drew (by simp) ?_ ⟨λ_=>undef,s.dr,rfl,GS.Le.refl _,rfl,rfl,(λj o _ h=>by rw [hfz] at h;cases h),(λj o d _ h=>by rw [hfz] at h;cases h),λt _=>rfl,λj r _ h=>by rw [hfz] at h;cases h⟩)
 .rintro listed a' _ i hsz ⟨g,s1,rfl,inv⟩ hi
  have hsz:listed.size=L.length:=by simpa using hsz
  obtain ⟨_,o,ho,_⟩:=mem_ready.1 hi
  have ho:L[i]? = some o:=by simpa using ho
  obtain ⟨hun,hed⟩:=(CY hsz ho).1 hi
  obtain ⟨e,he,hc⟩:=HW hok ho
  obtain ⟨r,hr,hs⟩:=hat' ho he
  have hil:i<listed.size:=by rw [hsz];exact (List.getElem?_eq_some_iff.1 ho).1
  have hle:GS.Le s s1:=(IF s).trans inv.le
  have hhp:=hst.hp.le hle
  have hok1:=hle.ok hst.ok
  have hdone:∀k,k≠i->(listed.setIfInBounds i true).getD k false=listed.getD k false:=λk hk=>getD_set_ne false λe=>hk e.symm
  have hnewS:∀(j:Nat) T k ds,rs[j]? = some (.newS T k ds)->j<L.length->rs[k]? = some (.st j):=λj T k ds hj hlt=>by
   have hoj:L[j]? = some L[j]:=List.getElem?_eq_getElem hlt
   obtain ⟨ej,hej,_⟩:=HW hok hoj
   obtain ⟨r',hr',hs'⟩:=hat' hoj hej
   obtain rfl:r'=_:=Option.some.inj (hr'.symm.trans hj)
   exact hs'.2
  have hrlt:∀(j:Nat) r,rs[j]? = some r->j<L.length:=λj r hj=>by have:=(List.getElem?_eq_some_iff.1 hj).1;omega
  have hargs:∀y,y∈o.op.operands->AVr σ.hp.length ρ s1 (Eu σ (rs.map HY.hr) e y) (a'.eval y):=by
   intro y hy
   cases y with
   | tmp t=>
    show AVr _ ρ s1 (match e.find? (λp=>p.1==t) with
     | some p=>match (rs.map HY.hr)[p.2]? with
      | some h=>h.val
      | none=>.d Cs
     | none=>(BV σ.fr t).getD (.d Cs)) (a'.tmps.getD t undef)
    cases hfd:e.find? (λp=>p.1==t) with
    | some p=>
     have hp:p∈e:=List.mem_of_find?_eq_some hfd
     have hpt:p.1=t:=by simpa using List.find?_some hfd
     simp only
     rw [List.getElem?_map]
     cases hrp:rs[p.2]? with
     | none=>trivial
     | some h=>
      obtain ⟨hpe,o',ho',hd'⟩:=hc.env p hp
      have h1:=inv.facts p.2 h hrp (hed _ hpe)
      have h2:=inv.a1 p.2 o' p.1 ho' (hed _ hpe) hd'
      have h3:a'.tmps.getD t undef=g p.2:=by rw [<-hpt,Array.getD_eq_getD_getElem?,h2];rfl
      rw [h3]
      cases h with
      | av r=>exact h1
      | _=>trivial
    | none=>
     simp only
     have h1:a'.tmps[t]? = a.tmps[t]?:=by
      refine inv.a2 t λj oj hoj _ hdj=>?_
      rcases hc.out t hy with ⟨p,hp,e1⟩ | h
      .have:=List.find?_eq_none.1 hfd p hp
       simp [e1] at this
      .exact h oj (List.mem_of_getElem? hoj) hdj
     rw [Array.getD_eq_getD_getElem?,h1,<-Array.getD_eq_getD_getElem?]
     exact (hst.arg (.tmp t)).chg hle.chg
   | const v=>exact (show a'.eval (.const v)=v from rfl)
   | global b=>trivial
   | func f=>exact (show a'.eval (.func f)=_ from rfl)
  have ho2:L.toArray[i]? = some o:=by simpa using ho
  have quiet:o.guard=none->(∀j,r ≠ .st j)->RegG.OpStep P o a'.eval s1 (λv s2=>GS.Le s1 s2/\SFact σ.hp.length ρ s.w.heap.size (λk=>(listed.setIfInBounds i true).getD k false) i r v s2)->wpOp P L.toArray (FE s0 n Q) i (λa' w'=>∃g s',s'.w=w'/\SInvY σ L rs ρ s a (listed.setIfInBounds i true) g a' s') a' s1.w:=by
   intro hg hns h
   unfold wpOp
   rw [ho2]
   show if Region.wanted o (yielded L.toArray a'.tmps)=true then _ else _
   rw [if_pos (by simp [Region.wanted,hg])]
   refine .inl (RegG.opStep_wp hc.ns (λ_ _=>rfl) h λv s2 ⟨h1,h2⟩=>⟨_,s2,rfl,inv.put hn hsz ho hc hun hed (inv.le.trans h1) (λj r' hr' hji hl=>?_) λr' hr'=>?_⟩)
   .refine (inv.facts j r' hr' hl).st h1 λT k ds e1=>?_
    subst e1
    refine hdone k λe2=>?_
    subst e2
    exact hns j (Option.some.inj (hr.symm.trans (hnewS j T k ds hr' (hrlt _ _ hr'))))
   .obtain rfl:r'=r:=Option.some.inj (hr'.symm.trans hr)
    exact h2
  have hnewrun:∀T cs,HStep P σ [] e o (.new T cs)->o.guard=none/\T≠335/\GP cs=true/\∃z:Value,z.cells.toList=cs/\(execOp a'.eval o).run P s1.w = .ok (.value (.pointer (some ⟨s1.w.heap.size,0,none⟩))) (s1.w.alloc (.cells z.cells T)):=λT cs h=>by
   obtain ⟨hg,hop,hT,h1,d,k,b,z,ht,hz⟩:=h
   exact ⟨hg,hT,h1,z,hz,by simp [execOp,hop,Instr.alloc,ht.run_zero,IJ]⟩
  cases r with
  | av r=>
   exact quiet hs.1 (λj h=>by cases h) (hs.2.run 0 s1 ρ a'.eval hok1 (Nat.zero_le _) hhp hargs)
  | new T cs=>
   obtain ⟨hg,hT,h1,z,hz,hrun⟩:=hnewrun T cs hs
   subst hz
   refine quiet hg (λj h=>by cases h) (HN hrun (s1.mk' z.cells T (i+1)) rfl ⟨s1.le_mk' z.cells T (i+1) hT,s1.w.heap.size,rfl,hle.ext.size,heap_alloc_new s1.w _,λk hk=>absurd (hok1.lt _ _ hk) (Nat.lt_irrefl _),?_,hT,h1⟩)
   show (if s1.w.heap.size=s1.w.heap.size then i+1 else _)=i+1
   rw [if_pos rfl]
  | newS T k ds=>
   obtain ⟨⟨cs,hs,hcl⟩,hk⟩:=hs
   obtain ⟨hg,hT,h1,z,hz,hrun⟩:=hnewrun T cs hs
   subst hz
   refine quiet hg (λj h=>by cases h) (HN hrun (s1.mk' z.cells T (i+1)) rfl ⟨s1.le_mk' z.cells T (i+1) hT,s1.w.heap.size,z.cells,rfl,hle.ext.size,heap_alloc_new s1.w _,λk hk=>absurd (hok1.lt _ _ hk) (Nat.lt_irrefl _),?_,hT,by simpa using hcl,λhd=>?_⟩)
   .show (if s1.w.heap.size=s1.w.heap.size then i+1 else _)=i+1
    rw [if_pos rfl]
   .exfalso
    have hki:k≠i:=λe1=>by
     subst e1
     rw [hr] at hk
     cases hk
    have hd:=(hdone k hki).symm.trans hd
    have hok':L[k]? = some (L[k]'(hrlt _ _ hk)):=List.getElem?_eq_getElem _
    obtain ⟨ek,hek,hck⟩:=HW hok hok'
    obtain ⟨r',hr',hs'⟩:=hat' hok' hek
    obtain rfl:r'=_:=Option.some.inj (hr'.symm.trans hk)
    obtain ⟨_,_,T',x,y,T0,ds',d,b,z',_,hx,_⟩:=hs'
    have:=inv.closed k _ hok' hd i (hck.env _ hx).1
    rw [hun] at this
    cases this
  | st j=>
   obtain ⟨hg,hdn,T,x,y,T0,ds,d,b,z,hop,hx,hrj,hy,ht⟩:=hs
   obtain ⟨hje,oj,hoj,hdj⟩:=hc.env _ hx
   have hlj:=hed _ hje
   obtain ⟨gb,cs,e1,e2,e3,e4,e5,e6,e7,_⟩:=inv.facts j _ hrj hlj
   have hxv:a'.eval (.tmp x) = .pointer (some ⟨gb,0,none⟩):=by
    rw [<-e1]
    show a'.tmps.getD x undef=g j
    rw [Array.getD_eq_getD_getElem?,inv.a1 j oj x hoj hlj hdj];rfl
   have hya:=hargs y (by rw [hop];simp [Op.operands])
   rw [hy] at hya
   obtain ⟨vs,p1,p2,p3⟩:=hya
   have hvone:∀v∈vs.toList,v.oneCell'=true:=λv hv=>by
    obtain ⟨k,hk,rfl⟩:=List.getElem_of_mem hv
    simp at hk
    obtain ⟨u,h9,h10,_⟩:=p3 k (by omega)
    rw [Array.getElem?_eq_getElem hk] at h9
    cases h9
    simpa using h10
   have hst1:=run_storeCells_at P gb 0 T0 vs.toList 0 cs s1.w e3 (by simp;omega) hvone
   simp only [Nat.add_zero] at hst1
   have hcont:(cs.toList.take 0++vs.toList++cs.toList.drop (0+vs.toList.length)).toArray=vs:=by
    rw [List.drop_of_length_le (by simp;omega)]
    simp
   rw [hcont] at hst1
   obtain ⟨W,hW⟩:∃W,W=s1.w.setRow gb vs:=⟨_,rfl⟩
   rw [<-hW] at hst1
   have hrun:(execOp a'.eval o).run P s1.w = .ok .skip W:=by
    simp [execOp,hop,hxv,p1,Instr.storeAt,Instr.sureAddr,storeVar,Value.cells,p2,ht.run_size,hst1]
   have hfar:∀b,b≠gb->W.heap[b]? = s1.w.heap[b]?:=λb hb=>by rw [hW];exact setRow_other s1.w gb b _ (λe=>hb e)
   have hnew:W.heap[gb]? = some (.cells vs T0 (0,0)):=by rw [hW];exact setRow_heap s1.w gb cs _ T0 _ e3
   have hwsz:W.heap.size=s1.w.heap.size:=by rw [hW];simp [World.setRow]
   have hok2 : s1.Ok → GS.Ok { s1 with w := W } := fun h => Lq h (fun _ _ h => h) (by show _ ≤ W.heap.size; omega) (fun _ _ h => h) fun b ⟨c, fz, hb⟩ => by
    by_cases e:b=gb
    .subst e
     have hb:W.heap[b]? = _:=hb
     rw [hnew] at hb
     cases hb
     exact absurd rfl e6
    .exact ⟨c,fz,(hfar b e).symm.trans hb⟩
   have hch : GS.Chg s1 { s1 with w := W } := ⟨by show _ ≤ W.heap.size; omega, fun _ _ h => h, fun b c T fz hb => by
    by_cases e:b=gb
    .subst e
     rw [e3] at hb
     cases hb
     exact ⟨_,_,hnew,λk hk=>absurd hk (e4 k)⟩
    .exact ⟨c,fz,(hfar b e).trans hb,λ_ _=>rfl⟩⟩
   have hdrs:s.dr.w.heap.size=s.w.heap.size:=rfl
   have hle2:GS.Le s.dr { s1 with w:=W }:=by
    refine ⟨⟨?_,?_,?_,?_,λk hk=>?_⟩,inv.le.up,inv.le.old,inv.le.tag,λh=>hok2 (inv.le.ok h)⟩
    .rw [<-inv.le.ext.os];rw [hW];rfl
    .rw [<-inv.le.ext.tape];rw [hW];rfl
    .rw [<-inv.le.ext.output];rw [hW];rfl
    .show _<=W.heap.size
     rw [hwsz]
     exact inv.le.ext.size
    .show W.heap[k]? = _
     rw [hfar k (by omega)]
     exact inv.le.ext.block hk
   have hfin:SInvY σ L rs ρ s a (listed.setIfInBounds i true) (λk=>if k=i then undef else g k) (a'.put o.dst undef) { s1 with w:=W }:=by
    refine inv.put hn hsz ho hc hun hed hle2 (λj' r' hr' hji hl=>?_) λr' hr'=>?_
    .by_cases hjj:j'=j
     .subst hjj
      obtain rfl:r'=_:=Option.some.inj (hr'.symm.trans hrj)
      exact ⟨gb,vs,e1,e2,hnew,e4,e5,e6,p2,λ_ k hk=>by
       obtain ⟨u,q1,q2,q3⟩:=p3 k hk
       exact ⟨u,q1,q2,(Dd ds k).st q3 hch⟩⟩
     .refine (inv.facts j' r' hr' hl).turn (g:=gb) (tg:=j) hch hfar (λ_ _ h=>h) (λ_=>rfl) e5 hjj λT' k' ds' e9=>?_
      subst e9
      refine hdone k' λe10=>?_
      subst e10
      have:=hnewS j' T' k' ds' hr' (hrlt _ _ hr')
      rw [hr] at this
      cases this
      exact hjj rfl
    .obtain rfl:r'=_:=Option.some.inj (hr'.symm.trans hr)
     trivial
   unfold wpOp
   rw [ho2]
   show if Region.wanted o (yielded L.toArray a'.tmps)=true then _ else _
   rw [if_pos (by simp [Region.wanted,hg])]
   refine .inl ?_
   unfold Oper.wp
   rw [hrun]
   exact ⟨_,_,rfl,hfin⟩
 .rintro listed a' _ hsz ⟨g,s1,rfl,inv⟩ h0
  have hsz:listed.size=L.length:=by simpa using hsz
  have hall:∀i,i<L.length->listed.getD i false=true:=by
   intro i
   induction i using Nat.strongRecOn with
   | _ i ih=>
    intro hi
    have ho:L[i]? = some L[i]:=List.getElem?_eq_getElem hi
    obtain ⟨e,he,hc⟩:=HW hok ho
    cases hg:listed.getD i false with
    | true=>rfl
    | false=>
     have:i∈Region.ready .any L.toArray listed:=(CY hsz ho).2 ⟨hg,λk hk=>ih k (hc.lt k hk) (by have:=hc.lt k hk;omega)⟩
     rw [h0] at this
     cases this
  have hle:GS.Le s s1:=(IF s).trans inv.le
  have hst':StI s0 n σ a s1 ρ:=hst.put hle (dst:=none) (λd hd=>by cases hd) (v:=undef) (r:=.d Cs) trivial
  have hdl:∀o∈L,∀d,o.dst=some d->d<n:=λo ho d hd=>by
   obtain ⟨i,hi⟩:=List.getElem?_of_mem ho
   obtain ⟨e,he,hc⟩:=HW hok hi
   exact (hc.dst d hd).1
  obtain ⟨ρ',hfin⟩:=LS (g:=g) (L:=L) (rs:=rs) (i:=0) (W:=s.w.heap.size) (m:=σ.hp.length) (ρ0:=ρ) hl2 hst' (Nat.le_refl _) (λ_ _=>rfl) hst.le.size (λk o b hk hv=>.inl ((hst.hp k o hk).blk_lt0 (OwB.le (hst.hp k o hk) hle hv))) (λj r hj=>by
   rw [Nat.zero_add]
   refine (inv.facts j r hj (hall j (by have:=(List.getElem?_eq_some_iff.1 hj).1;omega))).st (GS.Le.refl _) λT k ds e1=>?_
   subst e1
   have hjl:j<L.length:=by have:=(List.getElem?_eq_some_iff.1 hj).1;omega
   have hoj:L[j]? = some L[j]:=List.getElem?_eq_getElem hjl
   obtain ⟨ej,hej,_⟩:=HW hok hoj
   obtain ⟨r',hr',hs'⟩:=hat' hoj hej
   obtain rfl:r'=_:=Option.some.inj (hr'.symm.trans hj)
   have:=hs'.2
   exact (hall k (by have:=(List.getElem?_eq_some_iff.1 this).1;omega)).symm) (λj o k hj hr=>by
   obtain ⟨ej,hej,_⟩:=HW hok hj
   obtain ⟨r',hr',hs'⟩:=hat' hj hej
   obtain rfl:r'=_:=Option.some.inj (hr'.symm.trans hr)
   exact hs'.2.1) hdl
  have hpa:EG g L 0 a=a':=by
   obtain ⟨q1,q2,q3,q4⟩:=FS (g:=g) L 0 a (λj k o o' d hj hk e1 e2=>by
    obtain ⟨e,he,hc⟩:=HW hok hj
    exact ((hc.dst d e1).2 k o' hk e2).symm) (λo ho d hdo=>by rw [hn];exact hdl o ho d hdo)
   refine LT (Array.ext_getElem? λt=>?_) (q2.trans inv.adef.symm)
   by_cases ht:∃(j:Nat) (o:Oper),L[j]? = some o/\o.dst=some t
   .obtain ⟨j,o,hj,hdo⟩:=ht
    rw [q3 j o t hj hdo,inv.a1 j o t hj (hall j (List.getElem?_eq_some_iff.1 hj).1) hdo]
    simp
   .rw [q4 t λj o hj e=>ht ⟨j,o,hj,e⟩,inv.a2 t λj o hj _ e=>ht ⟨j,o,hj,e⟩]
  rw [hpa] at hfin
  exact ⟨_,fin,s1,ρ',rfl,hfin⟩
 .rw [<-Array.count_toList]
  simp
section
variable {P:Program} {σ:AS} {rs:List HY} {es:List (Nat×Nat)} {i:Nat} {o:Oper}
theorem HYSteps.cons{x:List (Nat×Nat)}{r:HY}{L:List Oper}{S:List (List (Nat×Nat))}{T:List HY}(h:HYStep P σ rs x i o r)(f:HYSteps P σ rs (i+1) L S T):HYSteps P σ rs i (o::L) (x::S) (r::T):=⟨h,f⟩
theorem HYSteps.nil:HYSteps P σ rs i [] [] []:=trivial
theorem HYStep.q{r:AV}(I:o.guard=none)(w:Quiet P σ.hp o (Eu σ (rs.map HY.hr) es) r):HYStep P σ rs es i o (.av r):=⟨I,w⟩
theorem HYStep.n{T n b k:Nat}{ds:List D}(I:o.guard=none)(J:Tab P T d n b z)(B:o.op=.alloc T)(h:Nat.beq T 335=false)(A:GP z.cells.toList=true)(K:z.cells.toList.length=ds.length)(C:rs[k]? = some (.st i)):HYStep P σ rs es i o (.newS T k ds):=⟨⟨_,HStep.n I J B (Nat.ne_of_beq_eq_false h) A,K⟩,C⟩
theorem HYStep.s{T x j h:Nat}{y:Operand}{ds:List D}{b:Nat}(I:o.guard=none)(W:o.dst=none)(C:o.op=.store T (.tmp x) y)(E:(x,j)∈es)(e:rs[j]? = some (.newS h i ds))(O:Eu σ (rs.map HY.hr) es y=.d (AJ ds))(J:Tab P T d ds.length b z):HYStep P σ rs es i o (.st j):=⟨I,W,T,x,y,h,ds,d,b,z,C,E,e,O,J⟩
end
theorem A4w{s0:An}{n:Nat}{Q:Exit->AS->Prop}{d τ:AS}{L:List Oper}(t:P.follows .mixedOrders=true)(C:List (List (Nat×Nat)))(F:List HY)(H:A5J L C n=true)(steps:HYSteps P d F 0 L C F)(K:AS.le (d.aftS L F) τ)(fin:Q .normal τ):AWp P s0 n (.region b L.toArray true) Q d:=⟨λa w f=>by
 refine wp_mono ((A0R (Q:=λe G=>e=.normal/\G=d.aftS L F) t C F H steps ⟨rfl,rfl⟩).run a w f) λe E N ⟨G,⟨X,A⟩,B⟩=>?_;subst X;subst A;exact⟨τ,fin,K _ _ _ _ B⟩⟩
section
variable {P:Program} {hp:List Ow} {arg:Operand->AV} {dd:Option Tmp} {ty:TypeId} {ps:String} {af:Array Edge} {gd:Option (Nat×Bool)}
theorem KE{len n b Y F:Nat}{R:AV->Prop}(J:Tab P t (.slice U) n b z)(X:Tab P U d Y F v)(I:Nat.blt 0 len=true)(E:Nat.blt 0 Y=true)(G:v.cells.size=Y)(K:Nat.ble (len*Y) 16777216=true)(A:GP v.cells.toList=true)(h:PC hp arg (λr=>∃C,PT (λi=>some (i*Y,Y)) (List.replicate (len*Y) Cs) r=some C/\R (.d (flD U Y (EK Y len C)))) [] vX):∃r,Quiet P hp ⟨dd,.buildSlice t len vX.toArray,ty,ps,af,gd⟩ arg r/\R r:=by
 obtain⟨r,B,C,L,V⟩:=Ka h;exact⟨_,Rj rfl J X (by simpa[Nat.blt_eq]using I) (by simpa[Nat.blt_eq]using E) G (Nat.le_of_ble_eq_true K) A B (JJ L),V⟩
theorem Ku{e n b Y r T k:Nat}(E:GG hp (arg x)=some (slD T k vl))(J:Tab P t (.slice e) n b z)(X:Tab P e d Y r v)(B:Y=k)(O:arg y=.d (ex (.int .i64 (vk:Nat))))(C:arg vN=.d (ex (.int .i64 (vk:Nat))))(A:vk<=vl.length):Quiet P hp ⟨dd,.slice t x none (some y) (some vN),ty,ps,af,gd⟩ arg (.d (flD T k (vl.take vk))):=Tz rfl E J X B O C A
theorem Ia{t T A k bytes m b:Nat}(E:arg x=.d (flD T k vl))(O:GG hp (arg y)=some (slD A k uf))(J:Tab P t (.slice T) m b v)(h:Tab P T d k bytes z)(B:z.cells.size=k)(j:(vl.length+uf.length)*bytes<=140737488355328)(f:vl.length+uf.length<=4611686018427387904):Quiet P hp ⟨dd,.call { callee:=.builtin .append,args:=#[x,y],argTypes:=#[t,t] },ty,ps,af,gd⟩ arg (.d (slD T k (vl++uf))):=XC rfl E O J h B j f
end
theorem KT{s0:An}{n:Nat}{e e2:Nat}{L J I:List Oper}{Q:Exit->AS->Prop}(t:P.follows .mixedOrders=true)(T:AddE e L J)(F:PQ e L J=true)(U:AddE e2 J I)(E:PQ e2 J I=true):DrawOk P s0 n b L.toArray I Q (OnlyN Q):=⟨λa w h=>by
 have C:∀j,(Array.replicate L.toArray.size false).getD j false=false:=λj=>Zaj
 have f:I.toArray.size=L.toArray.size:=by simp[T.length,U.length]
 rw[f]at h;have G:∀c a w,¬FE s0 n (OnlyN Q) (.panic c) a w:=λc a w ⟨d,h,_⟩=>Zie
 have K:¬LetsOut (FE s0 n (OnlyN Q)):=λ⟨a,w,d,h,_⟩=>Zie
 have g:=Jl U E G K _ _ _ _ (by simp[T.length]) (λj o _ K=>by rw[C]at K;cases K) h;have A:=Jl T F G K _ _ _ _ ZbV (λj o _ K=>by rw[C]at K;cases K) g
 exact wp_mono (wp_region_any t A) λex B N ⟨d,h,f⟩=>by
  obtain⟨rfl,h⟩:=h;exact⟨d,h,f⟩⟩
theorem A19{s t:Tm}(h:GT s.m t.m≠0):GL s t=GT s.m t.m:=by
 rw[<-Lc]at h ⊢;exact Og λe=>h (Ox.2 e)
theorem Zt{s t:Tm}(h:GT s.m t.m=0):GL s t=Ju s.c t.c:=by
 rw[<-Lc]at h;exact Oh (Ox.1 h)
theorem Sj(P Q:List Tm)(R:PSz P 1000000000)(I:PSz Q 1000000000)(i:P.length<=1000000)(t:Q.length<=1000000):Abs Tryz.prog 128 [BQ P,BQ Q] (ex (.int .i64 (CB P Q))):=by
 refine Ab Tryz.func128 λE=>?_;rw[Tryz.ntmps128];refine Go ?_;refine Az (λB d=>∃k,k<=P.length/\k<=Q.length/\CB P Q=CB (P.drop k) (Q.drop k)/\B=P.length-k/\d=⟨[(0,.d (BQ P)),(1,.d (BQ Q)),(5,.d (ex (.int .i64 (k:Nat))))],[]⟩) ?le ⟨0,by omega,by omega,rfl,rfl,rfl⟩ ?round
 case le=>exact Ad ZcC Zch
 case round=>
  rintro m _ ⟨k,C,j,heq,rfl,rfl⟩;by_cases A:k<P.length
  .by_cases z:k<Q.length
   .have f:=R _ (CV A)
    have J:=I _ (CV z);have Z:=MI A z;have c:=Fv (BJ P k).m (BJ Q k).m;have a:=A0o (BJ P k).c (BJ Q k).c f J;by_cases K:GT (BJ P k).m (BJ Q k).m=0
    .have L:GT (P.getD k default).m (Q.getD k default).m=0:=K
     have e:=Zt K;by_cases F:Ju (BJ P k).c (BJ Q k).c=0
     .rw [if_pos (e.trans F)]at Z
      refine Go ?_;refine ZgF ?_;refine ZgF ?_;refine Am (P.length-(k+1)) ZbK ⟨k+1,by omega,by omega,by rw[heq,Z],rfl,rfl⟩ ?_;exact Ad ZcC Zch
     .rw [if_neg (by rw [e]; exact F)] at Z
      refine Go ?_;refine ZgF ?_;refine ZgF ?_;refine Dy 11 ?_;exact Zhp
    .have e:=A19 K
     rw[if_neg (by rw[e];exact K)]at Z;refine Go ?_;refine ZgF ?_;refine Dy 11 ?_;exact Zhp
   .have e:CB P Q=1:=by
     exact ZiS
    refine Go ?_;exact Ak (Ah (ResV.tmp rfl rfl) (Ac ZeC))
  .exact ZaQ
def B8(l:List Nat):Prop:=∀z∈l,z<256
theorem B8.nil:B8 []:=λ_ h=>by cases h
theorem B8.app{a b:List Nat}(s:B8 a)(F:B8 b):B8 (a++b):=λz h=>(List.mem_append.1 h).elim (s z) (F z)
theorem B8.flat(h:∀x,B8 (ut x))(l:List e):B8 (l.flatMap ut):=λz B=>by
 obtain⟨x,-,E⟩:=List.mem_flatMap.1 B;exact h x z E
theorem SW(n:Nat):B8 (Bo n):=by
 induction n using Nat.strongRecOn with
 |ind n q=>
  rw[Bo];split
  .intro z B
   rw[List.mem_singleton.1 B];omega
  .intro z B
   rcases List.mem_cons.1 B with rfl | B
   .omega
   .exact q _ ZbK z B
theorem A3d(w:Nat):B8 (Cm w):=λz B=>by
 simp only[Cm,List.mem_cons,List.not_mem_nil,or_false]at B;omega
theorem Td(b:Bool)(l:List Nat):B8 (GF b l):=.app (SW _) (.flat A3d l)
theorem Pi(q:RQ):B8 (CA q):=.app (Td _ _) (Td _ _)
theorem MM(h:∀x,B8 (ut x))(f:Nat->e):B8 (La ut f):=.flat (λ_=>h _) _
theorem Gm(h:∀x,B8 (ut x))(l:List e):B8 (Bn ut l):=.app (SW _) (.flat h l)
theorem A3i(t:RTm):B8 (Ex t):=.app (.app (Td _ _) (Td _ _)) (MM (λ_=>SW _) _)
theorem SO(p:List RTm):B8 (Cr p):=Gm A3i p
theorem It(p:List (List RTm)):B8 (AN p):=Gm SO p
theorem OW(p:List (List (List RTm))):B8 (BC p):=Gm It p
theorem IN(z:Int):B8 (Bc z):=SW _
theorem Uw(o:List (Nat->Int)):B8 (Cg o):=Gm (MM IN) o
theorem A14(o:List RQ):B8 (FJ o):=Gm Pi o
theorem A4J(a:RQ×RQ):B8 (FX a):=.app (Pi _) (Pi _)
theorem Vn(a:List (Nat->RQ×RQ)):B8 (EL a):=Gm (MM A4J) a
theorem A6y(a:RQ×List RTm):B8 (Jk a):=.app (Pi _) (SO _)
theorem A5E(k:Cor):B8 (FP k):=.app (.app (IN _) (It _)) (It _)
theorem A5H(c:Clm):B8 (IS c):=.app (.app (.app (.app (.app (.app (.app (.app (IN _) (SO _)) (IN _)) (IN _)) (IN _)) (Uw _)) (It _)) (Gm IN _)) (Vn _)
theorem A50(r:Rsl):B8 (Jr r):=.app (.app (MM IN _) (A14 _)) (MM A14 _)
theorem A5C(e:Crt):B8 (Li e):=.app (.app (.app (.app (.app (.app (.app (.app (.app (.app (.app (IN _) (It _)) (It _)) (Uw _)) (OW _)) (OW _)) (OW _)) (A50 _)) (Gm A4J _)) (Gm A6y _)) (Gm (MM Pi) _)) (Vn _)
theorem Tf(f:Fct):B8 (FO f):=.app (.app (A5E _) (A5H _)) (A5C _)
end
end Go.Proofs.YtcikkglcoeedlaaGreat
