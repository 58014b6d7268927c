/- Part 23 of the proof of claimClashes_holds. No condition. -/
import Derived.Test.YtcikkglcoeedlaaGreatCx20
import Derived.Test.YtcikkglcoeedlaaGreatCx21
set_option linter.unusedSimpArgs false
set_option linter.unusedVariables false
set_option maxRecDepth 100000
namespace Go.Proofs.YtcikkglcoeedlaaGreat
variable{b:Nat}{vg:Nat->Value}{P:Program}{j:Type}{d:TypeDesc}{z:Value}{us:j->List Nat}
section
open Go.RowKit
inductive HY
 |av (r:AV)
 |new (T:TypeId) (cs:List Value)
 |newS (T:TypeId) (k:Nat) (ds:List D)
 |st (j:Nat)
def HY.hr:HY->HR
 |.av r=>.av r
 |_=>.av (.d Cw)
def HYStep(P:Program)(f:AS)(rs:List HY)(l:List (Nat×Nat))(i:Nat)(o:Oper):HY->Prop
 |.av r=>o.guard=none/\Quiet P f.hp o (Eo f (rs.map HY.hr) l) r
 |.new T Z=>HStep P f [] l o (.new T Z)
 |.newS T k R=>(∃Z,HStep P f [] l o (.new T Z)/\Z.length=R.length)/\rs[k]? = some (.st i)
 |.st j=>o.guard=none/\o.dst=none/\∃T x y e R d b z,o.op=.store T (.tmp x) y/\(x,j)∈l/\rs[j]? = some (.newS e i R)/\Eo f (rs.map HY.hr) l y=.d (AL R)/\Tab P T d R.length b z
def HYSteps(P:Program)(f:AS)(rs:List HY):Nat->List Oper->List (List (Nat×Nat))->List HY->Prop
 |i,o::L,x::S,r::T=>HYStep P f rs x i o r/\HYSteps P f rs (i+1) L S T
 |_,[],[],[]=>True
 |_,_,_,_=>False
theorem HYSteps.at{P:Program}{σ:AS}{rs:List HY}:∀{L:List Oper} {S:List (List (Nat×Nat))} {T:List HY} {i:Nat},HYSteps P σ rs i L S T->L.length=S.length/\L.length=T.length/\∀(k:Nat) o x r,L[k]? = some o->S[k]? = some x->T[k]? = some r->HYStep P σ rs x (i+k) o r
 |[],[],[],i,_=>⟨rfl,rfl,λk o x r h=>by simp at h⟩
 |[],[],_::_,i,h=>h.elim
 |[],_::_,T,i,h=>by cases T<;>exact h.elim
 |_::_,[],T,i,h=>by cases T<;>exact h.elim
 |_::_,_::_,[],i,h=>h.elim
 |o::L,x::S,r::T,i,⟨u,A⟩=>by
  obtain⟨d,v,U⟩:=HYSteps.at A;refine⟨by simp[d],by simp[v],λk B E I n C Y=>?_⟩
  cases k with
  |zero=>
   simp at n C Y;subst n;subst C;subst Y;exact u
  |succ k=>
   simp at n C Y;have:=U k B E I n C Y;rw[show i+(k+1)=i+1+k by omega];exact this
def AS.aftS(f:AS):List Oper->List HY->AS
 |o::L,.av r::S=>AS.aftS (f.put o.dst r) L S
 |o::L,.new T Z::S=>AS.aftS (f.new o.dst (.ptr f.hp.length 0) (.var T (Vg Z))) L S
 |o::L,.newS T _ R::S=>AS.aftS (f.new o.dst (.ptr f.hp.length 0) (.var T (R.map .d))) L S
 |_::L,.st _::S=>AS.aftS f L S
 |_,_=>f
def SFact(m:Nat)(ρ:Nat->Value)(W:Nat)(done:Nat->Bool)(i:Nat):HY->Value->GS->Prop
 |.av r=>λv s=>AVr m ρ s r v
 |.new T Z=>HFact m ρ W i (.new T Z)
 |.newS T k R=>λv s=>∃b Z,v=.pointer (some ⟨b,0,none⟩)/\W<=b/\s.w.heap[b]? = some (.cells Z T (0,0))/\(∀k,¬s.S b k)/\s.tag b=i+1/\T≠335/\Z.size=R.length/\(done k=true->∀j,j<R.length->∃u,Z[j]? = some u/\u.oneCell'=true/\(Df R j).rel s u)
 |.st _=>λ_ _=>True
theorem SFact.st{m:Nat}{ρ:Nat->Value}{W i:Nat}{done N:Nat->Bool}{r:HY}{v:Value}{s s':GS}(L:GS.Le s s')(C:∀T k R,r=.newS T k R->N k=done k)(h:SFact m ρ W done i r v s):SFact m ρ W N i r v s':=by
 cases r with
 |av r=>exact AVr.chg h L.chg
 |new T Z=>exact HFact.st (m:=m) (ρ:=ρ) (W:=W) (i:=i) (r:=.new T Z) v s s' L h
 |newS T k R=>
  obtain⟨b,Z,A,B,I,V,G,y,e,M⟩:=h;refine⟨b,Z,A,B,(L.ext.block (Bj I)).trans I,λk C=>V k (L.old b k (Bj I) C),(L.tag b (Bj I)).trans G,y,e,λE j F=>?_⟩;rw[C T k R rfl]at E;obtain⟨u,d,K,U⟩:=M E j F;exact⟨u,d,K,(Df R j).st U L.chg⟩
 |st j=>trivial
theorem SFact.turn{m:Nat}{W i g tg:Nat}{done Y:Nat->Bool}{r:HY}{v:Value}{s s':GS}(G:GS.Chg s s')(t:∀b,b≠g->s'.w.heap[b]? = s.w.heap[b]?)(l:∀b k,s'.S b k->s.S b k)(M:∀b,s'.tag b=s.tag b)(O:s.tag g=tg+1)(X:i≠tg)(C:∀T k R,r=.newS T k R->Y k=done k)(h:SFact m vg W done i r v s):SFact m vg W Y i r v s':=by
 cases r with
 |av r=>exact AVr.chg h G
 |new T Z=>
  obtain⟨b,A,B,I,V,L,y,Q⟩:=h;have E:b≠g:=λe=>by rw[e,O]at L;omega
  exact⟨b,A,B,(t b E).trans I,λk C=>V k (l b k C),(M b).trans L,y,Q⟩
 |newS T k R=>
  obtain⟨b,Z,A,B,I,V,L,y,Q,S⟩:=h;have E:b≠g:=λe=>by rw[e,O]at L;omega
  refine⟨b,Z,A,B,(t b E).trans I,λk C=>V k (l b k C),(M b).trans L,y,Q,λF j K=>?_⟩;rw[C T k R rfl]at F;obtain⟨u,d,N,U⟩:=S F j K;exact⟨u,d,N,(Df R j).st U G⟩
 |st j=>trivial
theorem Ls{s0:An}{n:Nat}{s':GS}{m W:Nat}{ρ0:Nat->Value}{g:Nat->Value}:∀{L:List Oper} {rs:List HY} {i:Nat} {σ:AS} {a:Act} {ρ:Nat->Value},L.length=rs.length->StI s0 n σ a s' ρ->m<=σ.hp.length->(∀j,j<m->ρ j=ρ0 j)->s0.g.w.heap.size<=W ->
  (∀k o b,σ.hp[k]? = some o->OwB s' (ρ k) o b->b<W\/∃j,j<i/\s'.tag b=j+1)->(∀(j:Nat) r,rs[j]? = some r->SFact m ρ0 W (λ_=>true) (i+j) r (g (i+j)) s')->(∀(j:Nat) o k,L[j]? = some o->rs[j]? = some (.st k)->o.dst=none)->(∀o∈L,∀d,o.dst=some d->d<n)->∃ρ',StI s0 n (σ.aftS L rs) (EM g L i a) s' ρ'
 | [],[],i,σ,a,ρ,_,h,_,_,_,_,_,_,_=>⟨ρ,h⟩
 | [],_::_,_,_,_,_,hl,_,_,_,_,_,_,_,_=>by simp at hl
 | _::_,[],_,_,_,_,hl,_,_,_,_,_,_,_,_=>by simp at hl
 | o::L,r::rs,i,σ,a,ρ,hl,h,hm,hρ,hW,hb,hf,hst,hd=>by
  have hd1:∀d,o.dst=some d->d<n:=hd o (by simp)
  have hd2:∀o∈L,∀d,o.dst=some d->d<n:=λo ho=>hd o (by simp [ho])
  have hst2:∀(j:Nat) o k,L[j]? = some o->rs[j]? = some (.st k)->o.dst=none:=λj o k h1 h2=>hst (j+1) o k (by simpa using h1) (by simpa using h2)
  have hf0:=hf 0 r rfl
  rw [Nat.add_zero] at hf0
  have hf':∀(j:Nat) r',rs[j]? = some r'->SFact m ρ0 W (λ_=>true) (i+1+j) r' (g (i+1+j)) s':=λj r' hj=>by
   have:=hf (j+1) r' (by simpa using hj)
   rw [show i+(j+1)=i+1+j by omega] at this
   exact this
  have hbn:∀(b:Nat) (T:TypeId) (c:List AV),s'.tag b=i+1->∀(k:Nat) o' b',(σ.hp++[Ow.var T c])[k]? = some o'->OwB s' (if k=σ.hp.length then .pointer (some ⟨b,0,none⟩) else ρ k) o' b'->b'<W\/∃j,j<i+1/\s'.tag b'=j+1:=by
   intro b T c e5 k o' b' hk hv
   rw [List.getElem?_append] at hk
   split at hk
   .rename_i hlt
    rw [if_neg (by omega)] at hv
    rcases hb k o' b' hk hv with h2 | ⟨j,h2,h3⟩
    .exact .inl h2
    .exact .inr ⟨j,by omega,h3⟩
   .rename_i hge
    have:k=σ.hp.length:=by
     have:=BV hk
     simp at this
     omega
    subst this
    rw [if_pos rfl] at hv
    have ho:o' = .var T c:=by simp at hk;exact hk.symm
    subst ho
    cases hv
    exact .inr ⟨i,by omega,e5⟩
  have hsep:∀(b:Nat) (T:TypeId) (c:List AV),W<=b->s'.tag b=i+1->∀b',OwB s' (.pointer (some ⟨b,0,none⟩)) (.var T c) b'->∀k o',σ.hp[k]? = some o'->¬OwB s' (ρ k) o' b':=by
   intro b T c e2 e5 b' hb' k o' hk hv
   cases hb'
   rcases hb k o' b hk hv with h2 | ⟨j,h2,h3⟩
   .omega
   .omega
  cases r with
  | av r=>
   have h1:=h.put (GS.Le.refl s') hd1 (v:=g i) (r:=r) (AVr.mono hf0 hm hρ)
   refine Ls (L:=L) (rs:=rs) (i:=i+1) (by simpa using hl) h1 ?_ hρ hW ?_ hf' hst2 hd2
   .cases hdo:o.dst<;>exact hm
   .intro k o' b hk hv
    have hk':σ.hp[k]? = some o':=by cases hdo:o.dst<;>(rw [hdo] at hk;exact hk)
    rcases hb k o' b hk' hv with h2 | ⟨j,h2,h3⟩
    .exact .inl h2
    .exact .inr ⟨j,by omega,h3⟩
  | st j=>
   have hdn:o.dst=none:=hst 0 o j rfl rfl
   have ha:EM g (o::L) i a=EM g L (i+1) a:=by show EM g L (i+1) (a.put o.dst (g i))=_;rw [hdn];rfl
   rw [ha]
   refine Ls (L:=L) (rs:=rs) (i:=i+1) (by simpa using hl) h hm hρ hW ?_ hf' hst2 hd2
   intro k o' b hk hv
   rcases hb k o' b hk hv with h2 | ⟨j,h2,h3⟩
   .exact .inl h2
   .exact .inr ⟨j,by omega,h3⟩
  | new T cs=>
   obtain ⟨b,e1,e2,e3,e4,e5,e6,e7⟩:=hf0
   have h1:=h.newG (GS.Le.refl s') hd1 (v:=g i) (u:=.pointer (some ⟨b,0,none⟩)) (r:=.ptr σ.hp.length 0) (ow:=.var T (Vg cs)) ⟨by omega,b,by simp,e1⟩ ?_ (hsep b T _ e2 e5) (λb' hb'=>by cases hb';exact .inr (Nat.le_trans hW e2))
   .exact Ls (L:=L) (rs:=rs) (i:=i+1) (by simpa using hl) h1 (by show m<=(σ.hp++[_]).length;simp;omega) (λj hj=>by rw [if_neg (by omega)];exact hρ j hj) hW (hbn b T _ e5) hf' hst2 hd2
   .refine ⟨b, cs.toArray, by simp, Nat.zero_le _, e3, by simp [Vg], e6, e4, λk av hk=>?_⟩
    unfold Vg at hk
    rw [List.getElem?_map] at hk
    cases hz:cs[k]? with
    | none=>rw [hz] at hk;cases hk
    | some u=>
     rw [hz] at hk
     cases hk
     exact ⟨u,by simpa using hz,List.all_eq_true.1 e7 u (List.mem_of_getElem? hz),rfl⟩
  | newS T k0 ds=>
   obtain ⟨b,cs,e1,e2,e3,e4,e5,e6,e7,e8⟩:=hf0
   have h1:=h.newG (GS.Le.refl s') hd1 (v:=g i) (u:=.pointer (some ⟨b,0,none⟩)) (r:=.ptr σ.hp.length 0) (ow:=.var T (ds.map .d)) ⟨by omega,b,by simp,e1⟩ ?_ (hsep b T _ e2 e5) (λb' hb'=>by cases hb';exact .inr (Nat.le_trans hW e2))
   .exact Ls (L:=L) (rs:=rs) (i:=i+1) (by simpa using hl) h1 (by show m<=(σ.hp++[_]).length;simp;omega) (λj hj=>by rw [if_neg (by omega)];exact hρ j hj) hW (hbn b T _ e5) hf' hst2 hd2
   .refine ⟨b, cs, by simp, Nat.zero_le _, e3, by simp [e7], e6, e4, λk av hk=>?_⟩
    rw [List.getElem?_map] at hk
    cases hz:ds[k]? with
    | none=>rw [hz] at hk;cases hk
    | some u=>
     rw [hz] at hk
     cases hk
     obtain ⟨x,q1,q2,q3⟩:=e8 rfl k (List.getElem?_eq_some_iff.1 hz).1
     refine ⟨x,q1,q2,?_⟩
     have:Df ds k=u:=by simp [Df,hz]
     rw [this] at q3
     exact q3
def A4M(L:List Oper)(l:List (List (Nat×Nat)))(n:Nat):Bool:=
 (List.range L.length).all λi=>match L[i]?,l[i]? with
  |some o,some e=>Bz o.op&&((Bp o).all λk=>decide (k<i))&&(e.all λp=>(Bp o).contains p.2&&(match L[p.2]? with |some u=>u.dst==some p.1 |none=>false)) &&
   (o.op.operands.all λy=>match y with | .tmp t=>(e.any λp=>p.1==t)||(L.all λu=>u.dst != some t) | _=>true) &&
   (match o.dst with | none=>true | some d=>decide (d<n)&&((List.range L.length).all λj=>j==i||(match L[j]? with | some u=>u.dst != some d | none=>true)))
  |_,_=>false
structure ChkS(L:List Oper)(n i:Nat)(o:Oper)(e:List (Nat×Nat)):Prop where
 ns:Bz o.op=true
 lt:∀k∈Bp o,k<i
 env:∀p∈e,p.2∈Bp o/\∃o',L[p.2]? = some o'/\o'.dst=some p.1
 out:∀t,Operand.tmp t∈o.op.operands->(∃p∈e,p.1=t)\/∀o'∈L,o'.dst≠some t
 dst:∀d,o.dst=some d->d<n/\∀(j:Nat) o',L[j]? = some o'->o'.dst=some d->j=i
theorem HE{L:List Oper}{l:List (List (Nat×Nat))}{n:Nat}(h:A4M L l n=true){i:Nat}{o:Oper}(G:L[i]? = some o):∃e,l[i]? = some e/\ChkS L n i o e:=by
 have u:=List.all_eq_true.1 h i (List.mem_range.2 (List.getElem?_eq_some_iff.1 G).1);rw[G]at u
 cases a:l[i]? with
 |none=>rw[a]at u;cases u
 |some e=>
  rw[a]at u;simp only[Bool.and_eq_true]at u;obtain⟨⟨⟨⟨g,b⟩,N⟩,T⟩,Q⟩:=u;refine⟨e,rfl,g,λk B=>by simpa using List.all_eq_true.1 b k B,λp F=>?_,λt M=>?_,λd W=>?_⟩
  .have:=List.all_eq_true.1 N p F
   simp only[Bool.and_eq_true]at this;refine⟨by simpa using this.1,?_⟩;have A:=this.2
   cases O:L[p.2]? with
   |none=>rw[O]at A;cases A
   |some E=>rw[O]at A;exact⟨E,rfl,by simpa using A⟩
  .have:=(Array.all_eq_true'.1 T) _ M
   simp only[Bool.or_eq_true]at this;rcases this with A | A
   .obtain ⟨p,F,C⟩:=List.any_eq_true.1 A
    exact .inl ⟨p,F,by simpa using C⟩
   .exact .inr λE I=>by simpa using List.all_eq_true.1 A E I
  .rw [W]at Q
   simp only[Bool.and_eq_true,decide_eq_true_eq]at Q;refine⟨Q.1,λj E I K=>?_⟩;have:=List.all_eq_true.1 Q.2 j (List.mem_range.2 (List.getElem?_eq_some_iff.1 I).1);rw[I]at this;simpa[K]using this
structure SInvY(σ:AS)(L:List Oper)(rs:List HY)(ρ:Nat->Value)(s:GS)(a:Act)(listed:Array Bool)(g:Nat->Value)(a':Act)(s':GS):Prop where
 le:GS.Le s.dr s'
 asz:a'.tmps.size=a.tmps.size
 adef:a'.defers=a.defers
 closed:∀j o,L[j]? = some o->listed.getD j false=true->∀e∈Bp o,listed.getD e false=true
 a1:∀j o d,L[j]? = some o->listed.getD j false=true->o.dst=some d->a'.tmps[d]? = some (g j)
 a2:∀t,(∀j o,L[j]? = some o->listed.getD j false=true->o.dst≠some t)->a'.tmps[t]? = a.tmps[t]?
 facts:∀j r,rs[j]? = some r->listed.getD j false=true->SFact σ.hp.length ρ s.w.heap.size (λk=>listed.getD k false) j r (g j) s'
theorem SInvY.put{σ:AS}{L:List Oper}{rs:List HY}{s:GS}{a:Act}{listed:Array Bool}{g:Nat->Value}{Q:Act}{s1 s2:GS}{n i:Nat}{o:Oper}{e:List (Nat×Nat)}(I:SInvY σ L rs vg s a listed g Q s1)(C:a.tmps.size=n)(w:listed.size=L.length)(F:L[i]? = some o)(G:ChkS L n i o e)(l:listed.getD i false=false)(W:∀e∈Bp o,listed.getD e false=true){v:Value}(S:GS.Le s.dr s2)
  (p:∀j r,rs[j]? = some r->j≠i->listed.getD j false=true->SFact σ.hp.length vg s.w.heap.size (λk=>(listed.setIfInBounds i true).getD k false) j r (g j) s2) (K:∀r,rs[i]? = some r->SFact σ.hp.length vg s.w.heap.size (λk=>(listed.setIfInBounds i true).getD k false) i r v s2) :
  SInvY σ L rs vg s a (listed.setIfInBounds i true) (λk=>if k=i then v else g k) (Q.put o.dst v) s2:=by
 have x:i<listed.size:=by rw[w];exact(List.getElem?_eq_some_iff.1 F).1
 have b:∀j,(listed.setIfInBounds i true).getD j false=true->j≠i->listed.getD j false=true:=λj h E=>by
  rw[getD_set_ne false (λe=>E e.symm)]at h;exact h
 refine⟨S,?_,?_,λj T V u k B=>?_,λj T d V u Z=>?_,λt M=>?_,λj r Y u=>?_⟩
 .unfold Act.put;split<;>simp[I.asz]
 .unfold Act.put;split<;>simp[I.adef]
 .by_cases X:j=i
  .subst X
   obtain rfl:T=o:=Option.some.inj (V.symm.trans F);exact getD_set_true (W k B)
  .exact getD_set_true (I.closed j T V (b j u X) k B)
 .by_cases X:j=i
  .subst X
   obtain rfl:T=o:=Option.some.inj (V.symm.trans F);have f:d<Q.tmps.size:=by rw[I.asz,C];exact(G.dst d Z).1
   simp[Act.put,Z,f]
  .have c:=b j u X
   have O:o.dst≠some d:=λU=>X ((G.dst d U).2 j T V Z);rw[if_neg X,<-I.a1 j T d V c Z];unfold Act.put;split
   .rename_i N R
    have:N≠d:=λe=>O (by rw[R,e]);exact ZgZ
   .rfl
 .have A:o.dst≠some t:=M i o F (by simp [x])
  rw[<-I.a2 t λj T V u=>M j T V (getD_set_true u)];unfold Act.put;split
  .rename_i N R
   have:N≠t:=λe=>A (by rw[R,e]);exact ZgZ
  .rfl
 .by_cases X:j=i
  .subst X
   simp only[if_true];exact K r Y
  .simp only[if_neg X]
   exact p j r Y X (b j u X)
theorem ZZ{P:Program}{s0:An}{n:Nat}{Q:Exit->AS->Prop}{σ:AS}{id:Nat}{L:List Oper}(hm:P.follows .mixedOrders=true)(es:List (List (Nat×Nat)))(rs:List HY)(hok:A4M L es n=true)(steps:HYSteps P σ rs 0 L es rs)(fin:Q .normal (σ.aftS L rs)):AWp P s0 n (.region id L.toArray true) Q σ:=by
 refine ⟨λa w ⟨s,ρ,hw,hst⟩=>?_⟩
 subst hw
 obtain ⟨hl1,hl2,hat⟩:=steps.at
 have hn:a.tmps.size=n:=hst.sz
 have hfz:∀j,(Array.replicate L.toArray.size false).getD j false=false:=λj=>by
  rcases Nat.lt_or_ge j L.length with h | h
  .simp [h]
  .simp [h]
 have hat':∀{i:Nat} {o:Oper} {e:List (Nat×Nat)},L[i]? = some o->es[i]? = some e->∃r,rs[i]? = some r/\HYStep P σ rs e i o r:=λ{i o e} ho he=>by
  have hi:=(List.getElem?_eq_some_iff.1 ho).1
  have hr:rs[i]? = some (rs[i]'(by omega)):=List.getElem?_eq_getElem _
  refine ⟨_,hr,?_⟩
  have:=hat i o e _ ho he hr
  rwa [Nat.zero_add] at this
 refine wp_region_any hm (LT (λlisted a' w'=>∃g s',s'.w=w'/\SInvY σ L rs ρ s a listed g a' s') ?_ ?_ _ _ a s.w.drew (by simp) ?_ ⟨λ_=>undef,s.dr,rfl,GS.Le.refl _,rfl,rfl,(λj o _ h=>by rw [hfz] at h;cases h),(λj o d _ h=>by rw [hfz] at h;cases h),λt _=>rfl,λj r _ h=>by rw [hfz] at h;cases h⟩)
 .rintro listed a' _ i hsz ⟨g,s1,rfl,inv⟩ hi
  have hsz:listed.size=L.length:=by simpa using hsz
  obtain ⟨_,o,ho,_⟩:=mem_ready.1 hi
  have ho:L[i]? = some o:=by simpa using ho
  obtain ⟨hun,hed⟩:=(CV hsz ho).1 hi
  obtain ⟨e,he,hc⟩:=HE hok ho
  obtain ⟨r,hr,hs⟩:=hat' ho he
  have hil:i<listed.size:=by rw [hsz];exact (List.getElem?_eq_some_iff.1 ho).1
  have hle:GS.Le s s1:=(Iq s).trans inv.le
  have hhp:=hst.hp.le hle
  have hok1:=hle.ok hst.ok
  have hdone:∀k,k≠i->(listed.setIfInBounds i true).getD k false=listed.getD k false:=λk hk=>getD_set_ne false λe=>hk e.symm
  have hnewS:∀(j:Nat) T k ds,rs[j]? = some (.newS T k ds)->j<L.length->rs[k]? = some (.st j):=λj T k ds hj hlt=>by
   have hoj:L[j]? = some L[j]:=List.getElem?_eq_getElem hlt
   obtain ⟨ej,hej,_⟩:=HE hok hoj
   obtain ⟨r',hr',hs'⟩:=hat' hoj hej
   obtain rfl:r'=_:=Option.some.inj (hr'.symm.trans hj)
   exact hs'.2
  have hrlt:∀(j:Nat) r,rs[j]? = some r->j<L.length:=λj r hj=>by have:=(List.getElem?_eq_some_iff.1 hj).1;omega
  have hargs:∀y,y∈o.op.operands->AVr σ.hp.length ρ s1 (Eo σ (rs.map HY.hr) e y) (a'.eval y):=by
   intro y hy
   cases y with
   | tmp t=>
    show AVr _ ρ s1 (match e.find? (λp=>p.1==t) with
     | some p=>match (rs.map HY.hr)[p.2]? with
      | some h=>h.val
      | none=>.d Cw
     | none=>(BR σ.fr t).getD (.d Cw)) (a'.tmps.getD t undef)
    cases hfd:e.find? (λp=>p.1==t) with
    | some p=>
     have hp:p∈e:=List.mem_of_find?_eq_some hfd
     have hpt:p.1=t:=by simpa using List.find?_some hfd
     simp only
     rw [List.getElem?_map]
     cases hrp:rs[p.2]? with
     | none=>trivial
     | some h=>
      obtain ⟨hpe,o',ho',hd'⟩:=hc.env p hp
      have h1:=inv.facts p.2 h hrp (hed _ hpe)
      have h2:=inv.a1 p.2 o' p.1 ho' (hed _ hpe) hd'
      have h3:a'.tmps.getD t undef=g p.2:=by rw [<-hpt,Array.getD_eq_getD_getElem?,h2];rfl
      rw [h3]
      cases h with
      | av r=>exact h1
      | _=>trivial
    | none=>
     simp only
     have h1:a'.tmps[t]? = a.tmps[t]?:=by
      refine inv.a2 t λj oj hoj _ hdj=>?_
      rcases hc.out t hy with ⟨p,hp,e1⟩ | h
      .have:=List.find?_eq_none.1 hfd p hp
       simp [e1] at this
      .exact h oj (List.mem_of_getElem? hoj) hdj
     rw [Array.getD_eq_getD_getElem?,h1,<-Array.getD_eq_getD_getElem?]
     exact (hst.arg (.tmp t)).chg hle.chg
   | const v=>exact (show a'.eval (.const v)=v from rfl)
   | global b=>trivial
   | func f=>exact (show a'.eval (.func f)=_ from rfl)
  have ho2:L.toArray[i]? = some o:=by simpa using ho
  have quiet:o.guard=none->(∀j,r ≠ .st j)->RegG.OpStep P o a'.eval s1 (λv s2=>GS.Le s1 s2/\SFact σ.hp.length ρ s.w.heap.size (λk=>(listed.setIfInBounds i true).getD k false) i r v s2)->wpOp P L.toArray (FG s0 n Q) i (λa' w'=>∃g s',s'.w=w'/\SInvY σ L rs ρ s a (listed.setIfInBounds i true) g a' s') a' s1.w:=by
   intro hg hns h
   unfold wpOp
   rw [ho2]
   show if Region.wanted o (yielded L.toArray a'.tmps)=true then _ else _
   rw [if_pos (by simp [Region.wanted,hg])]
   refine .inl (RegG.opStep_wp hc.ns (λ_ _=>rfl) h λv s2 ⟨h1,h2⟩=>⟨_,s2,rfl,inv.put hn hsz ho hc hun hed (inv.le.trans h1) (λj r' hr' hji hl=>?_) λr' hr'=>?_⟩)
   .refine (inv.facts j r' hr' hl).st h1 λT k ds e1=>?_
    subst e1
    refine hdone k λe2=>?_
    subst e2
    exact hns j (Option.some.inj (hr.symm.trans (hnewS j T k ds hr' (hrlt _ _ hr'))))
   .obtain rfl:r'=r:=Option.some.inj (hr'.symm.trans hr)
    exact h2
  have hnewrun:∀T cs,HStep P σ [] e o (.new T cs)->o.guard=none/\T≠335/\Hp cs=true/\∃z:Value,z.cells.toList=cs/\(execOp a'.eval o).run P s1.w = .ok (.value (.pointer (some ⟨s1.w.heap.size,0,none⟩))) (s1.w.alloc (.cells z.cells T)):=λT cs h=>by
   obtain ⟨hg,hop,hT,h1,d,k,b,z,ht,hz⟩:=h
   exact ⟨hg,hT,h1,z,hz,by simp [execOp,hop,Instr.alloc,ht.run_zero,Iv]⟩
  cases r with
  | av r=>
   exact quiet hs.1 (λj h=>by cases h) (hs.2.run 0 s1 ρ a'.eval hok1 (Nat.zero_le _) hhp hargs)
  | new T cs=>
   obtain ⟨hg,hT,h1,z,hz,hrun⟩:=hnewrun T cs hs
   subst hz
   refine quiet hg (λj h=>by cases h) (JK hrun (s1.mk' z.cells T (i+1)) rfl ⟨s1.le_mk' z.cells T (i+1) hT,s1.w.heap.size,rfl,hle.ext.size,heap_alloc_new s1.w _,λk hk=>absurd (hok1.lt _ _ hk) (Nat.lt_irrefl _),?_,hT,h1⟩)
   show (if s1.w.heap.size=s1.w.heap.size then i+1 else _)=i+1
   rw [if_pos rfl]
  | newS T k ds=>
   obtain ⟨⟨cs,hs,hcl⟩,hk⟩:=hs
   obtain ⟨hg,hT,h1,z,hz,hrun⟩:=hnewrun T cs hs
   subst hz
   refine quiet hg (λj h=>by cases h) (JK hrun (s1.mk' z.cells T (i+1)) rfl ⟨s1.le_mk' z.cells T (i+1) hT,s1.w.heap.size,z.cells,rfl,hle.ext.size,heap_alloc_new s1.w _,λk hk=>absurd (hok1.lt _ _ hk) (Nat.lt_irrefl _),?_,hT,by simpa using hcl,λhd=>?_⟩)
   .show (if s1.w.heap.size=s1.w.heap.size then i+1 else _)=i+1
    rw [if_pos rfl]
   .exfalso
    have hki:k≠i:=λe1=>by
     subst e1
     rw [hr] at hk
     cases hk
    have hd:=(hdone k hki).symm.trans hd
    have hok':L[k]? = some (L[k]'(hrlt _ _ hk)):=List.getElem?_eq_getElem _
    obtain ⟨ek,hek,hck⟩:=HE hok hok'
    obtain ⟨r',hr',hs'⟩:=hat' hok' hek
    obtain rfl:r'=_:=Option.some.inj (hr'.symm.trans hk)
    obtain ⟨_,_,T',x,y,T0,ds',d,b,z',_,hx,_⟩:=hs'
    have:=inv.closed k _ hok' hd i (hck.env _ hx).1
    rw [hun] at this
    cases this
  | st j=>
   obtain ⟨hg,hdn,T,x,y,T0,ds,d,b,z,hop,hx,hrj,hy,ht⟩:=hs
   obtain ⟨hje,oj,hoj,hdj⟩:=hc.env _ hx
   have hlj:=hed _ hje
   obtain ⟨gb,cs,e1,e2,e3,e4,e5,e6,e7,_⟩:=inv.facts j _ hrj hlj
   have hxv:a'.eval (.tmp x) = .pointer (some ⟨gb,0,none⟩):=by
    rw [<-e1]
    show a'.tmps.getD x undef=g j
    rw [Array.getD_eq_getD_getElem?,inv.a1 j oj x hoj hlj hdj];rfl
   have hya:=hargs y (by rw [hop];simp [Op.operands])
   rw [hy] at hya
   obtain ⟨vs,p1,p2,p3⟩:=hya
   have hvone:∀v∈vs.toList,v.oneCell'=true:=λv hv=>by
    obtain ⟨k,hk,rfl⟩:=List.getElem_of_mem hv
    simp at hk
    obtain ⟨u,h9,h10,_⟩:=p3 k (by omega)
    rw [Array.getElem?_eq_getElem hk] at h9
    cases h9
    simpa using h10
   have hst1:=run_storeCells_at P gb 0 T0 vs.toList 0 cs s1.w e3 (by simp;omega) hvone
   simp only [Nat.add_zero] at hst1
   have hcont:(cs.toList.take 0++vs.toList++cs.toList.drop (0+vs.toList.length)).toArray=vs:=by
    rw [List.drop_of_length_le (by simp;omega)]
    simp
   rw [hcont] at hst1
   obtain ⟨W,hW⟩:∃W,W=s1.w.setRow gb vs:=⟨_,rfl⟩
   rw [<-hW] at hst1
   have hrun:(execOp a'.eval o).run P s1.w = .ok .skip W:=by
    simp [execOp,hop,hxv,p1,Instr.storeAt,Instr.sureAddr,storeVar,Value.cells,p2,ht.run_size,hst1]
   have hfar:∀b,b≠gb->W.heap[b]? = s1.w.heap[b]?:=λb hb=>by rw [hW];exact setRow_other s1.w gb b _ (λe=>hb e)
   have hnew:W.heap[gb]? = some (.cells vs T0 (0,0)):=by rw [hW];exact setRow_heap s1.w gb cs _ T0 _ e3
   have hwsz:W.heap.size=s1.w.heap.size:=by rw [hW];simp [World.setRow]
   have hok2 : s1.Ok → GS.Ok { s1 with w := W } := fun h => KL h (fun _ _ h => h) (by show _ ≤ W.heap.size; omega) (fun _ _ h => h) fun b ⟨c, fz, hb⟩ => by
    by_cases e:b=gb
    .subst e
     have hb:W.heap[b]? = _:=hb
     rw [hnew] at hb
     cases hb
     exact absurd rfl e6
    .exact ⟨c,fz,(hfar b e).symm.trans hb⟩
   have hch : GS.Chg s1 { s1 with w := W } := ⟨by show _ ≤ W.heap.size; omega, fun _ _ h => h, fun b c T fz hb => by
    by_cases e:b=gb
    .subst e
     rw [e3] at hb
     cases hb
     exact ⟨_,_,hnew,λk hk=>absurd hk (e4 k)⟩
    .exact ⟨c,fz,(hfar b e).trans hb,λ_ _=>rfl⟩⟩
   have hdrs:s.dr.w.heap.size=s.w.heap.size:=rfl
   have hle2:GS.Le s.dr { s1 with w:=W }:=by
    refine ⟨⟨?_,?_,?_,?_,λk hk=>?_⟩,inv.le.up,inv.le.old,inv.le.tag,λh=>hok2 (inv.le.ok h)⟩
    .rw [<-inv.le.ext.os];rw [hW];rfl
    .rw [<-inv.le.ext.tape];rw [hW];rfl
    .rw [<-inv.le.ext.output];rw [hW];rfl
    .show _<=W.heap.size
     rw [hwsz]
     exact inv.le.ext.size
    .show W.heap[k]? = _
     rw [hfar k (by omega)]
     exact inv.le.ext.block hk
   have hfin:SInvY σ L rs ρ s a (listed.setIfInBounds i true) (λk=>if k=i then undef else g k) (a'.put o.dst undef) { s1 with w:=W }:=by
    refine inv.put hn hsz ho hc hun hed hle2 (λj' r' hr' hji hl=>?_) λr' hr'=>?_
    .by_cases hjj:j'=j
     .subst hjj
      obtain rfl:r'=_:=Option.some.inj (hr'.symm.trans hrj)
      exact ⟨gb,vs,e1,e2,hnew,e4,e5,e6,p2,λ_ k hk=>by
       obtain ⟨u,q1,q2,q3⟩:=p3 k hk
       exact ⟨u,q1,q2,(Df ds k).st q3 hch⟩⟩
     .refine (inv.facts j' r' hr' hl).turn (g:=gb) (tg:=j) hch hfar (λ_ _ h=>h) (λ_=>rfl) e5 hjj λT' k' ds' e9=>?_
      subst e9
      refine hdone k' λe10=>?_
      subst e10
      have:=hnewS j' T' k' ds' hr' (hrlt _ _ hr')
      rw [hr] at this
      cases this
      exact hjj rfl
    .obtain rfl:r'=_:=Option.some.inj (hr'.symm.trans hr)
     trivial
   unfold wpOp
   rw [ho2]
   show if Region.wanted o (yielded L.toArray a'.tmps)=true then _ else _
   rw [if_pos (by simp [Region.wanted,hg])]
   refine .inl ?_
   unfold Oper.wp
   rw [hrun]
   exact ⟨_,_,rfl,hfin⟩
 .rintro listed a' _ hsz ⟨g,s1,rfl,inv⟩ h0
  have hsz:listed.size=L.length:=by simpa using hsz
  have hall:∀i,i<L.length->listed.getD i false=true:=by
   intro i
   induction i using Nat.strongRecOn with
   | _ i ih=>
    intro hi
    have ho:L[i]? = some L[i]:=List.getElem?_eq_getElem hi
    obtain ⟨e,he,hc⟩:=HE hok ho
    cases hg:listed.getD i false with
    | true=>rfl
    | false=>
     have:i∈Region.ready .any L.toArray listed:=(CV hsz ho).2 ⟨hg,λk hk=>ih k (hc.lt k hk) (by have:=hc.lt k hk;omega)⟩
     rw [h0] at this
     cases this
  have hle:GS.Le s s1:=(Iq s).trans inv.le
  have hst':StI s0 n σ a s1 ρ:=hst.put hle (dst:=none) (λd hd=>by cases hd) (v:=undef) (r:=.d Cw) trivial
  have hdl:∀o∈L,∀d,o.dst=some d->d<n:=λo ho d hd=>by
   obtain ⟨i,hi⟩:=List.getElem?_of_mem ho
   obtain ⟨e,he,hc⟩:=HE hok hi
   exact (hc.dst d hd).1
  obtain ⟨ρ',hfin⟩:=Ls (g:=g) (L:=L) (rs:=rs) (i:=0) (W:=s.w.heap.size) (m:=σ.hp.length) (ρ0:=ρ) hl2 hst' (Nat.le_refl _) (λ_ _=>rfl) hst.le.size (λk o b hk hv=>.inl ((hst.hp k o hk).blk_lt0 (OwB.le (hst.hp k o hk) hle hv))) (λj r hj=>by
   rw [Nat.zero_add]
   refine (inv.facts j r hj (hall j (by have:=(List.getElem?_eq_some_iff.1 hj).1;omega))).st (GS.Le.refl _) λT k ds e1=>?_
   subst e1
   have hjl:j<L.length:=by have:=(List.getElem?_eq_some_iff.1 hj).1;omega
   have hoj:L[j]? = some L[j]:=List.getElem?_eq_getElem hjl
   obtain ⟨ej,hej,_⟩:=HE hok hoj
   obtain ⟨r',hr',hs'⟩:=hat' hoj hej
   obtain rfl:r'=_:=Option.some.inj (hr'.symm.trans hj)
   have:=hs'.2
   exact (hall k (by have:=(List.getElem?_eq_some_iff.1 this).1;omega)).symm) (λj o k hj hr=>by
   obtain ⟨ej,hej,_⟩:=HE hok hj
   obtain ⟨r',hr',hs'⟩:=hat' hj hej
   obtain rfl:r'=_:=Option.some.inj (hr'.symm.trans hr)
   exact hs'.2.1) hdl
  have hpa:EM g L 0 a=a':=by
   obtain ⟨q1,q2,q3,q4⟩:=FD (g:=g) L 0 a (λj k o o' d hj hk e1 e2=>by
    obtain ⟨e,he,hc⟩:=HE hok hj
    exact ((hc.dst d e1).2 k o' hk e2).symm) (λo ho d hdo=>by rw [hn];exact hdl o ho d hdo)
   refine Lt (Array.ext_getElem? λt=>?_) (q2.trans inv.adef.symm)
   by_cases ht:∃(j:Nat) (o:Oper),L[j]? = some o/\o.dst=some t
   .obtain ⟨j,o,hj,hdo⟩:=ht
    rw [q3 j o t hj hdo,inv.a1 j o t hj (hall j (List.getElem?_eq_some_iff.1 hj).1) hdo]
    simp
   .rw [q4 t λj o hj e=>ht ⟨j,o,hj,e⟩,inv.a2 t λj o hj _ e=>ht ⟨j,o,hj,e⟩]
  rw [hpa] at hfin
  exact ⟨_,fin,s1,ρ',rfl,hfin⟩
 .rw [<-Array.count_toList]
  simp
section
variable {P:Program} {σ:AS} {rs:List HY} {es:List (Nat×Nat)} {i:Nat} {o:Oper}
theorem HYSteps.cons{x:List (Nat×Nat)}{r:HY}{L:List Oper}{S:List (List (Nat×Nat))}{T:List HY}(h:HYStep P σ rs x i o r)(b:HYSteps P σ rs (i+1) L S T):HYSteps P σ rs i (o::L) (x::S) (r::T):=⟨h,b⟩
theorem HYSteps.nil:HYSteps P σ rs i [] [] []:=trivial
theorem HYStep.q{r:AV}(G:o.guard=none)(z:Quiet P σ.hp o (Eo σ (rs.map HY.hr) es) r):HYStep P σ rs es i o (.av r):=⟨G,z⟩
theorem HYStep.n{T n b k:Nat}{ds:List D}(G:o.guard=none)(M:Tab P T d n b z)(C:o.op=.alloc T)(g:Nat.beq T 335=false)(u:Hp z.cells.toList=true)(L:z.cells.toList.length=ds.length)(B:rs[k]? = some (.st i)):HYStep P σ rs es i o (.newS T k ds):=⟨⟨_,HStep.n G M C (Nat.ne_of_beq_eq_false g) u,L⟩,B⟩
theorem HYStep.s{T x j e:Nat}{y:Operand}{ds:List D}{b:Nat}(G:o.guard=none)(E:o.dst=none)(A:o.op=.store T (.tmp x) y)(C:(x,j)∈es)(u:rs[j]? = some (.newS e i ds))(N:Eo σ (rs.map HY.hr) es y=.d (AL ds))(M:Tab P T d ds.length b z):HYStep P σ rs es i o (.st j):=⟨G,E,T,x,y,e,ds,d,b,z,A,C,u,N,M⟩
end
theorem A3v{s0:An}{n:Nat}{Q:Exit->AS->Prop}{f τ:AS}{L:List Oper}(s:P.follows .mixedOrders=true)(l:List (List (Nat×Nat)))(S:List HY)(T:A4M L l n=true)(steps:HYSteps P f S 0 L l S)(B:AS.le (f.aftS L S) τ)(fin:Q .normal τ):AWp P s0 n (.region b L.toArray true) Q f:=⟨λa w E=>by
 refine wp_mono ((ZZ (Q:=λe G=>e=.normal/\G=f.aftS L S) s l S T steps ⟨rfl,rfl⟩).run a w E) λe F O ⟨G,⟨C,u⟩,A⟩=>?_;subst C;subst u;exact⟨τ,fin,B _ _ _ _ A⟩⟩
def B8(l:List Nat):Prop:=∀z∈l,z<256
theorem B8.nil:B8 []:=λ_ h=>by cases h
theorem B8.app{a b:List Nat}(t:B8 a)(E:B8 b):B8 (a++b):=λz h=>(List.mem_append.1 h).elim (t z) (E z)
theorem B8.flat(h:∀x,B8 (us x))(l:List j):B8 (l.flatMap us):=λz u=>by
 obtain⟨x,-,C⟩:=List.mem_flatMap.1 u;exact h x z C
theorem Sm(n:Nat):B8 (Bl n):=by
 induction n using Nat.strongRecOn with
 |ind n A=>
  rw[Bl];split
  .intro z u
   rw[List.mem_singleton.1 u];omega
  .intro z u
   rcases List.mem_cons.1 u with rfl | u
   .omega
   .exact A _ Zbx z u
theorem A2d(w:Nat):B8 (Cj w):=λz u=>by
 simp only[Cj,List.mem_cons,List.not_mem_nil,or_false]at u;omega
theorem Su(b:Bool)(l:List Nat):B8 (Gq b l):=.app (Sm _) (.flat A2d l)
theorem Oq(q:RQ):B8 (Cv q):=.app (Su _ _) (Su _ _)
theorem Mg(h:∀x,B8 (us x))(f:Nat->j):B8 (KC us f):=.flat (λ_=>h _) _
theorem FS(h:∀x,B8 (us x))(l:List j):B8 (Bk us l):=.app (Sm _) (.flat h l)
theorem A2i(t:RTm):B8 (Eq t):=.app (.app (Su _ _) (Su _ _)) (Mg (λ_=>Sm _) _)
theorem Sc(p:List RTm):B8 (Co p):=FS A2i p
theorem HZ(p:List (List RTm)):B8 (AQ p):=FS Sc p
theorem Of(p:List (List (List RTm))):B8 (Bs p):=FS HZ p
theorem IA(z:Int):B8 (Bc z):=Sm _
theorem TG(o:List (Nat->Int)):B8 (Cc o):=FS (Mg IA) o
theorem A0c(o:List RQ):B8 (Ft o):=FS Oq o
theorem A3J(a:RQ×RQ):B8 (FH a):=.app (Oq _) (Oq _)
theorem Ux(a:List (Nat->RQ×RQ)):B8 (EB a):=FS (Mg A3J) a
theorem A5x(a:RQ×List RTm):B8 (IZ a):=.app (Oq _) (Sc _)
theorem A4H(k:Cor):B8 (FA k):=.app (.app (IA _) (HZ _)) (HZ _)
theorem A4K(c:Clm):B8 (IH c):=.app (.app (.app (.app (.app (.app (.app (.app (IA _) (Sc _)) (IA _)) (IA _)) (IA _)) (TG _)) (HZ _)) (FS IA _)) (Ux _)
theorem A43(r:Rsl):B8 (Je r):=.app (.app (Mg IA _) (A0c _)) (Mg A0c _)
theorem A4F(e:Crt):B8 (KG e):=.app (.app (.app (.app (.app (.app (.app (.app (.app (.app (.app (IA _) (HZ _)) (HZ _)) (TG _)) (Of _)) (Of _)) (Of _)) (A43 _)) (FS A3J _)) (FS A5x _)) (FS (Mg Oq) _)) (Ux _)
theorem Sw(f:Fct):B8 (Fz f):=.app (.app (A4H _) (A4K _)) (A4F _)
end
end Go.Proofs.YtcikkglcoeedlaaGreat
