/- Part 21. No condition. -/
import Derived.Test.YtcikkglcoeedlaaGreatBk3
import Derived.Test.YtcikkglcoeedlaaGreatBk18
import Derived.Test.YtcikkglcoeedlaaGreatBk19
import Derived.Test.YtcikkglcoeedlaaGreatBk20
set_option linter.unusedSimpArgs false
set_option linter.unusedVariables false
set_option maxRecDepth 100000
namespace Go.Proofs.YtcikkglcoeedlaaGreat
open _root_.Go.Proofs.Tryz
variable{vN:Array Bool}{vk:Exit->AS->Prop}{vm ul:List (List D)}{vc:List (Nat×AV)}{vv:List (Nat×Nat)}{ub:List (Nat×Operand)}{i:List AV}{vf:List Oper}{H vz uR:List Ow}{b vj:Nat}{uf uZ:Nat->Bool}{vi:Nat->Value}{va:Oper}{x y vS:Operand}{P:Program}{e:Type}{d:TypeDesc}{t U:TypeId}{z u:Value}{uc:e->List Nat}
section
open Go.RowKit
inductive HY
 |av (r:AV)
 |new (T:TypeId) (cs:List Value)
 |newS (T:TypeId) (k:Nat) (ds:List D)
 |st (j:Nat)
def HY.hr:HY->HR
 |.av r=>.av r
 |_=>.av (.d CD)
def HYStep(P:Program)(A:AS)(rs:List HY)(m:List (Nat×Nat))(i:Nat)(o:Oper):HY->Prop
 |.av r=>o.guard=none/\Quiet P A.hp o (DZ A (rs.map HY.hr) m) r
 |.new T h=>HStep P A [] m o (.new T h)
 |.newS T k R=>(∃h,HStep P A [] m o (.new T h)/\h.length=R.length)/\rs[k]? = some (.st i)
 |.st j=>o.guard=none/\o.dst=none/\∃T x y n R d b z,o.op=.store T (.tmp x) y/\(x,j)∈m/\rs[j]? = some (.newS n i R)/\DZ A (rs.map HY.hr) m y=.d (AP R)/\Tab P T d R.length b z
def HYSteps(P:Program)(d:AS)(rs:List HY):Nat->List Oper->List (List (Nat×Nat))->List HY->Prop
 |i,o::L,x::S,r::T=>HYStep P d rs x i o r/\HYSteps P d rs (i+1) L S T
 |_,[],[],[]=>True
 |_,_,_,_=>False
theorem HYSteps.at{P:Program}{σ:AS}{rs:List HY}:∀{L:List Oper} {S:List (List (Nat×Nat))} {T:List HY} {i:Nat},HYSteps P σ rs i L S T->L.length=S.length/\L.length=T.length/\∀(k:Nat) o x r,L[k]? = some o->S[k]? = some x->T[k]? = some r->HYStep P σ rs x (i+k) o r
 |[],[],[],i,_=>⟨rfl,rfl,λk o x r h=>by simp at h⟩
 |[],[],_::_,i,h=>h.elim
 |[],_::_,T,i,h=>by cases T<;>exact h.elim
 |_::_,[],T,i,h=>by cases T<;>exact h.elim
 |_::_,_::_,[],i,h=>h.elim
 |o::L,x::S,r::T,i,⟨A,B⟩=>by
  obtain⟨Z,s,H⟩:=HYSteps.at B;refine⟨by simp[Z],by simp[s],λk w N n q E X=>?_⟩
  cases k with
  |zero=>
   simp at q E X;subst q;subst E;subst X;exact A
  |succ k=>
   simp at q E X;have:=H k w N n q E X;rw[show i+(k+1)=i+1+k by omega];exact this
def AS.aftS(d:AS):List Oper->List HY->AS
 |o::L,.av r::a=>AS.aftS (d.put o.dst r) L a
 |o::L,.new T h::a=>AS.aftS (d.new o.dst (.ptr d.hp.length 0) (.var T (ZB h))) L a
 |o::L,.newS T _ R::a=>AS.aftS (d.new o.dst (.ptr d.hp.length 0) (.var T (R.map .d))) L a
 |_::L,.st _::a=>AS.aftS d L a
 |_,_=>d
def SFact(m:Nat)(ρ:Nat->Value)(W:Nat)(done:Nat->Bool)(i:Nat):HY->Value->GS->Prop
 |.av r=>λv s=>AVr m ρ s r v
 |.new T h=>HFact m ρ W i (.new T h)
 |.newS T k R=>λv s=>∃b h,v=.pointer (some ⟨b,0,none⟩)/\W<=b/\s.w.heap[b]? = some (.cells h T (0,0))/\(∀k,¬s.S b k)/\s.tag b=i+1/\T≠335/\h.size=R.length/\(done k=true->∀j,j<R.length->∃u,h[j]? = some u/\u.oneCell'=true/\(DK R j).rel s u)
 |.st _=>λ_ _=>True
theorem SFact.st{m:Nat}{ρ:Nat->Value}{W i:Nat}{r:HY}{v:Value}{s s':GS}(J:GS.Le s s')(C:∀T k R,r=.newS T k R->uZ k=uf k)(h:SFact m ρ W uf i r v s):SFact m ρ W uZ i r v s':=by
 cases r with
 |av r=>exact AVr.chg h J.chg
 |new T E=>exact HFact.st (m:=m) (ρ:=ρ) (W:=W) (i:=i) (r:=.new T E) v s s' J h
 |newS T k R=>
  obtain⟨b,E,A,B,L,S,n,G,g,y⟩:=h;refine⟨b,E,A,B,(J.ext.block (Bw L)).trans L,λk C=>S k (J.old b k (Bw L) C),(J.tag b (Bw L)).trans n,G,g,λe j a=>?_⟩;rw[C T k R rfl]at e;obtain⟨u,Z,F,H⟩:=y e j a;exact⟨u,Z,F,(DK R j).st H J.chg⟩
 |st j=>trivial
theorem SFact.turn{m:Nat}{W i g tg:Nat}{r:HY}{v:Value}{s s':GS}(I:GS.Chg s s')(V:∀b,b≠g->s'.w.heap[b]? = s.w.heap[b]?)(O:∀b k,s'.S b k->s.S b k)(M:∀b,s'.tag b=s.tag b)(P:s.tag g=tg+1)(Q:i≠tg)(C:∀T k R,r=.newS T k R->uZ k=uf k)(h:SFact m vi W uf i r v s):SFact m vi W uZ i r v s':=by
 cases r with
 |av r=>exact AVr.chg h I
 |new T G=>
  obtain⟨b,A,B,L,S,n,K,N⟩:=h;have F:b≠g:=λe=>by rw[e,P]at n;omega
  exact⟨b,A,B,(V b F).trans L,λk C=>S k (O b k C),(M b).trans n,K,N⟩
 |newS T k R=>
  obtain⟨b,G,A,B,L,S,n,K,N,y⟩:=h;have F:b≠g:=λe=>by rw[e,P]at n;omega
  refine⟨b,G,A,B,(V b F).trans L,λk C=>S k (O b k C),(M b).trans n,K,N,λE j a=>?_⟩;rw[C T k R rfl]at E;obtain⟨u,Z,J,H⟩:=y E j a;exact⟨u,Z,J,(DK R j).st H I⟩
 |st j=>trivial
theorem NG{s0:An}{n:Nat}{s':GS}{m W:Nat}{ρ0:Nat->Value}{g:Nat->Value}:∀{L:List Oper} {rs:List HY} {i:Nat} {σ:AS} {a:Act} {ρ:Nat->Value},L.length=rs.length->StI s0 n σ a s' ρ->m<=σ.hp.length->(∀j,j<m->ρ j=ρ0 j)->s0.g.w.heap.size<=W ->
  (∀k o b,σ.hp[k]? = some o->OwB s' (ρ k) o b->b<W\/∃j,j<i/\s'.tag b=j+1)->(∀(j:Nat) r,rs[j]? = some r->SFact m ρ0 W (λ_=>true) (i+j) r (g (i+j)) s')->(∀(j:Nat) o k,L[j]? = some o->rs[j]? = some (.st k)->o.dst=none)->(∀o∈L,∀d,o.dst=some d->d<n)->∃ρ',StI s0 n (σ.aftS L rs) (FA g L i a) s' ρ'
 | [],[],i,σ,a,ρ,_,h,_,_,_,_,_,_,_=>⟨ρ,h⟩
 | [],_::_,_,_,_,_,hl,_,_,_,_,_,_,_,_=>by simp at hl
 | _::_,[],_,_,_,_,hl,_,_,_,_,_,_,_,_=>by simp at hl
 | o::L,r::rs,i,σ,a,ρ,hl,h,hm,hρ,hW,hb,hf,hst,hd=>by
  have hd1:∀d,o.dst=some d->d<n:=hd o (by simp)
  have hd2:∀o∈L,∀d,o.dst=some d->d<n:=λo ho=>hd o (by simp [ho])
  have hst2:∀(j:Nat) o k,L[j]? = some o->rs[j]? = some (.st k)->o.dst=none:=λj o k h1 h2=>hst (j+1) o k (by simpa using h1) (by simpa using h2)
  have hf0:=hf 0 r rfl
  rw [Ybd] at hf0
  have hf':∀(j:Nat) r',rs[j]? = some r'->SFact m ρ0 W (λ_=>true) (i+1+j) r' (g (i+1+j)) s':=λj r' hj=>by
   have:=hf (j+1) r' (by simpa using hj)
   rw [show i+(j+1)=i+1+j by omega] at this
   exact this
  have hbn:∀(b:Nat) (T:TypeId) (c:List AV),s'.tag b=i+1->∀(k:Nat) o' b',(σ.hp++[Ow.var T c])[k]? = some o'->OwB s' (if k=σ.hp.length then .pointer (some ⟨b,0,none⟩) else ρ k) o' b'->b'<W\/∃j,j<i+1/\s'.tag b'=j+1:=by
   intro b T c e5 k o' b' hk hv
   rw [YaQ] at hk
   split at hk
   .rename_i hlt
    rw [Yai (by omega)] at hv
    rcases hb k o' b' hk hv with h2 | ⟨j,h2,h3⟩
    .exact .inl h2
    .exact .inr ⟨j,by omega,h3⟩
   .rename_i hge
    have:k=σ.hp.length:=by
     have:=Cy hk
     simp at this
     omega
    subst this
    rw [Yan rfl] at hv
    have ho:o' = .var T c:=by simp at hk;exact hk.symm
    subst ho
    cases hv
    exact .inr ⟨i,by omega,e5⟩
  have hsep:∀(b:Nat) (T:TypeId) (c:List AV),W<=b->s'.tag b=i+1->∀b',OwB s' (.pointer (some ⟨b,0,none⟩)) (.var T c) b'->∀k o',σ.hp[k]? = some o'->¬OwB s' (ρ k) o' b':=by
   intro b T c e2 e5 b' hb' k o' hk hv
   cases hb'
   rcases hb k o' b hk hv with h2 | ⟨j,h2,h3⟩
   .omega
   .omega
  cases r with
  | av r=>
   have h1:=h.put (GS.Le.refl s') hd1 (v:=g i) (r:=r) (AVr.mono hf0 hm hρ)
   refine NG (L:=L) (rs:=rs) (i:=i+1) (by simpa using hl) h1 ?_ hρ hW ?_ hf' hst2 hd2
   .cases hdo:o.dst<;>exact hm
   .intro k o' b hk hv
    have hk':σ.hp[k]? = some o':=by cases hdo:o.dst<;>(rw [hdo] at hk;exact hk)
    rcases hb k o' b hk' hv with h2 | ⟨j,h2,h3⟩
    .exact .inl h2
    .exact .inr ⟨j,by omega,h3⟩
  | st j=>
   have hdn:o.dst=none:=hst 0 o j rfl rfl
   have ha:FA g (o::L) i a=FA g L (i+1) a:=by show FA g L (i+1) (a.put o.dst (g i))=_;rw [hdn];rfl
   rw [ha]
   refine NG (L:=L) (rs:=rs) (i:=i+1) (by simpa using hl) h hm hρ hW ?_ hf' hst2 hd2
   intro k o' b hk hv
   rcases hb k o' b hk hv with h2 | ⟨j,h2,h3⟩
   .exact .inl h2
   .exact .inr ⟨j,by omega,h3⟩
  | new T cs=>
   obtain ⟨b,e1,e2,e3,e4,e5,e6,e7⟩:=hf0
   have h1:=h.newG (GS.Le.refl s') hd1 (v:=g i) (u:=.pointer (some ⟨b,0,none⟩)) (r:=.ptr σ.hp.length 0) (ow:=.var T (ZB cs)) ⟨by omega,b,by simp,e1⟩ ?_ (hsep b T _ e2 e5) (λb' hb'=>by cases hb';exact .inr (Yat hW e2))
   .exact NG (L:=L) (rs:=rs) (i:=i+1) (by simpa using hl) h1 (by show m<=(σ.hp++[_]).length;simp;omega) (λj hj=>by rw [Yai (by omega)];exact hρ j hj) hW (hbn b T _ e5) hf' hst2 hd2
   .refine ⟨b, cs.toArray, by simp, Yaw _, e3, by simp [ZB], e6, e4, λk av hk=>?_⟩
    unfold ZB at hk
    rw [Yax] at hk
    cases hz:cs[k]? with
    | none=>rw [hz] at hk;cases hk
    | some u=>
     rw [hz] at hk
     cases hk
     exact ⟨u,by simpa using hz,Yaj.1 e7 u (YaE hz),rfl⟩
  | newS T k0 ds=>
   obtain ⟨b,cs,e1,e2,e3,e4,e5,e6,e7,e8⟩:=hf0
   have h1:=h.newG (GS.Le.refl s') hd1 (v:=g i) (u:=.pointer (some ⟨b,0,none⟩)) (r:=.ptr σ.hp.length 0) (ow:=.var T (ds.map .d)) ⟨by omega,b,by simp,e1⟩ ?_ (hsep b T _ e2 e5) (λb' hb'=>by cases hb';exact .inr (Yat hW e2))
   .exact NG (L:=L) (rs:=rs) (i:=i+1) (by simpa using hl) h1 (by show m<=(σ.hp++[_]).length;simp;omega) (λj hj=>by rw [Yai (by omega)];exact hρ j hj) hW (hbn b T _ e5) hf' hst2 hd2
   .refine ⟨b, cs, by simp, Yaw _, e3, by simp [e7], e6, e4, λk av hk=>?_⟩
    rw [Yax] at hk
    cases hz:ds[k]? with
    | none=>rw [hz] at hk;cases hk
    | some u=>
     rw [hz] at hk
     cases hk
     obtain ⟨x,q1,q2,q3⟩:=e8 rfl k (Yae.1 hz).1
     refine ⟨x,q1,q2,?_⟩
     have:DK ds k=u:=by simp [DK,hz]
     rw [this] at q3
     exact q3
def Aa6(L:List Oper)(m:List (List (Nat×Nat)))(n:Nat):Bool:=
 (List.range L.length).all λi=>match L[i]?,m[i]? with
  |some o,some e=>BN o.op&&((Bz o).all λk=>decide (k<i))&&(e.all λp=>(Bz o).contains p.2&&(match L[p.2]? with |some w=>w.dst==some p.1 |none=>false)) &&
   (o.op.operands.all λy=>match y with | .tmp t=>(e.any λp=>p.1==t)||(L.all λw=>w.dst != some t) | _=>true) &&
   (match o.dst with | none=>true | some d=>decide (d<n)&&((List.range L.length).all λj=>j==i||(match L[j]? with | some w=>w.dst != some d | none=>true)))
  |_,_=>false
structure ChkS(L:List Oper)(n i:Nat)(o:Oper)(e:List (Nat×Nat)):Prop where
 ns:BN o.op=true
 lt:∀k∈Bz o,k<i
 env:∀p∈e,p.2∈Bz o/\∃o',L[p.2]? = some o'/\o'.dst=some p.1
 out:∀t,Operand.tmp t∈o.op.operands->(∃p∈e,p.1=t)\/∀o'∈L,o'.dst≠some t
 dst:∀d,o.dst=some d->d<n/\∀(j:Nat) o',L[j]? = some o'->o'.dst=some d->j=i
theorem Ji{L:List Oper}{m:List (List (Nat×Nat))}{n:Nat}(h:Aa6 L m n=true){i:Nat}(q:L[i]? = some va):∃e,m[i]? = some e/\ChkS L n i va e:=by
 have A:=Yaj.1 h i (YaZ.2 (Yae.1 q).1);rw[q]at A
 cases b:m[i]? with
 |none=>rw[b]at A;cases A
 |some e=>
  rw[b]at A;simp only[Yam]at A;obtain⟨⟨⟨⟨U,P⟩,K⟩,O⟩,N⟩:=A;refine⟨e,rfl,U,λk C=>by simpa using Yaj.1 P k C,λp G=>?_,λt M=>?_,λd E=>?_⟩
  .have:=Yaj.1 K p G
   simp only[Yam]at this;refine⟨by simpa using this.1,?_⟩;have B:=this.2
   cases F:L[p.2]? with
   |none=>rw[F]at B;cases B
   |some w=>rw[F]at B;exact⟨w,rfl,by simpa using B⟩
  .have:=(Yem.1 O) _ M
   simp only[Ybg]at this;rcases this with B | B
   .obtain ⟨p,G,Z⟩:=Yci.1 B
    exact .inl ⟨p,G,by simpa using Z⟩
   .exact .inr λw I=>by simpa using Yaj.1 B w I
  .rw [E]at N
   simp only[Yam,Ybb]at N;refine⟨N.1,λj w I J=>?_⟩;have:=Yaj.1 N.2 j (YaZ.2 (Yae.1 I).1);rw[I]at this;simpa[J]using this
structure SInvY(σ:AS)(L:List Oper)(rs:List HY)(ρ:Nat->Value)(s:GS)(a:Act)(listed:Array Bool)(g:Nat->Value)(a':Act)(s':GS):Prop where
 le:GS.Le s.dr s'
 asz:a'.tmps.size=a.tmps.size
 adef:a'.defers=a.defers
 closed:∀j o,L[j]? = some o->listed.getD j false=true->∀e∈Bz o,listed.getD e false=true
 a1:∀j o d,L[j]? = some o->listed.getD j false=true->o.dst=some d->a'.tmps[d]? = some (g j)
 a2:∀t,(∀j o,L[j]? = some o->listed.getD j false=true->o.dst≠some t)->a'.tmps[t]? = a.tmps[t]?
 facts:∀j r,rs[j]? = some r->listed.getD j false=true->SFact σ.hp.length ρ s.w.heap.size (λk=>listed.getD k false) j r (g j) s'
theorem SInvY.put{σ:AS}{L:List Oper}{rs:List HY}{s:GS}{a:Act}{g:Nat->Value}{F:Act}{s1 s2:GS}{n i:Nat}{e:List (Nat×Nat)}(O:SInvY σ L rs vi s a vN g F s1)(f:a.tmps.size=n)(G:vN.size=L.length)(q:L[i]? = some va)(I:ChkS L n i va e)(c:vN.getD i false=false)(Y:∀e∈Bz va,vN.getD e false=true){v:Value}(R:GS.Le s.dr s2)
  (E:∀j r,rs[j]? = some r->j≠i->vN.getD j false=true->SFact σ.hp.length vi s.w.heap.size (λk=>(vN.setIfInBounds i true).getD k false) j r (g j) s2) (K:∀r,rs[i]? = some r->SFact σ.hp.length vi s.w.heap.size (λk=>(vN.setIfInBounds i true).getD k false) i r v s2) :
  SInvY σ L rs vi s a (vN.setIfInBounds i true) (λk=>if k=i then v else g k) (F.put va.dst v) s2:=by
 have l:i<vN.size:=by rw[G];exact(Yae.1 q).1
 have m:∀j,(vN.setIfInBounds i true).getD j false=true->j≠i->vN.getD j false=true:=λj h A=>by
  rw[getD_set_ne false (λe=>A e.symm)]at h;exact h
 refine⟨R,?_,?_,λj W S J k C=>?_,λj W d S J P=>?_,λt M=>?_,λj r X J=>?_⟩
 .unfold Act.put;split<;>simp[O.asz]
 .unfold Act.put;split<;>simp[O.adef]
 .by_cases Z:j=i
  .subst Z
   obtain rfl:W=va:=Yag (S.symm.trans q);exact getD_set_true (Y k C)
  .exact getD_set_true (O.closed j W S (m j J Z) k C)
 .by_cases Z:j=i
  .subst Z
   obtain rfl:W=va:=Yag (S.symm.trans q);have p:d<F.tmps.size:=by rw[O.asz,f];exact(I.dst d P).1
   simp[Act.put,P,p]
  .have o:=m j J Z
   have N:va.dst≠some d:=λV=>Z ((I.dst d V).2 j W S P);rw[Yai Z,<-O.a1 j W d S o P];unfold Act.put;split
   .rename_i Q b
    have:Q≠d:=λe=>N (by rw[b,e]);exact Zjm
   .rfl
 .have B:va.dst≠some t:=M i va q (by simp [l])
  rw[<-O.a2 t λj W S J=>M j W S (getD_set_true J)];unfold Act.put;split
  .rename_i Q b
   have:Q≠t:=λe=>B (by rw[b,e]);exact Zjm
  .rfl
 .by_cases Z:j=i
  .subst Z
   simp only[if_true];exact K r X
  .simp only[Yai Z]
   exact E j r X Z (m j J Z)
theorem A42{P:Program}{s0:An}{n:Nat}{Q:Exit->AS->Prop}{σ:AS}{id:Nat}{L:List Oper}(hm:P.follows .mixedOrders=true)(es:List (List (Nat×Nat)))(rs:List HY)(hok:Aa6 L es n=true)(steps:HYSteps P σ rs 0 L es rs)(fin:Q .normal (σ.aftS L rs)):AWp P s0 n (.region id L.toArray true) Q σ:=by
 refine ⟨λa w ⟨s,ρ,hw,hst⟩=>?_⟩
 subst hw
 obtain ⟨hl1,hl2,hat⟩:=steps.at
 have hn:a.tmps.size=n:=hst.sz
 have hfz:∀j,(Array.replicate L.toArray.size false).getD j false=false:=λj=>by
  rcases YaG j L.length with h | h
  .simp [h]
  .simp [h]
 have hat':∀{i:Nat} {o:Oper} {e:List (Nat×Nat)},L[i]? = some o->es[i]? = some e->∃r,rs[i]? = some r/\HYStep P σ rs e i o r:=λ{i o e} ho he=>by
  have hi:=(Yae.1 ho).1
  have hr:rs[i]? = some (rs[i]'(by omega)):=Yac _
  refine ⟨_,hr,?_⟩
  have:=hat i o e _ ho he hr
  rwa [YaH] at this
 refine wp_region_any hm (Oo (λlisted a' w'=>∃g s',s'.w=w'/\SInvY σ L rs ρ s a listed g a' s') ?_ ?_ _ _ a s.w.drew (by simp) ?_ ⟨λ_=>undef,s.dr,rfl,GS.Le.refl _,rfl,rfl,(λj o _ h=>by rw [hfz] at h;cases h),(λj o d _ h=>by rw [hfz] at h;cases h),λt _=>rfl,λj r _ h=>by rw [hfz] at h;cases h⟩)
 .rintro listed a' _ i hsz ⟨g,s1,rfl,inv⟩ hi
  have hsz:listed.size=L.length:=by simpa using hsz
  obtain ⟨_,o,ho,_⟩:=mem_ready.1 hi
  have ho:L[i]? = some o:=by simpa using ho
  obtain ⟨hun,hed⟩:=(DC hsz ho).1 hi
  obtain ⟨e,he,hc⟩:=Ji hok ho
  obtain ⟨r,hr,hs⟩:=hat' ho he
  have hil:i<listed.size:=by rw [hsz];exact (Yae.1 ho).1
  have hle:GS.Le s s1:=(JZ s).trans inv.le
  have hhp:=hst.hp.le hle
  have hok1:=hle.ok hst.ok
  have hdone:∀k,k≠i->(listed.setIfInBounds i true).getD k false=listed.getD k false:=λk hk=>getD_set_ne false λe=>hk e.symm
  have hnewS:∀(j:Nat) T k ds,rs[j]? = some (.newS T k ds)->j<L.length->rs[k]? = some (.st j):=λj T k ds hj hlt=>by
   have hoj:L[j]? = some L[j]:=Yac hlt
   obtain ⟨ej,hej,_⟩:=Ji hok hoj
   obtain ⟨r',hr',hs'⟩:=hat' hoj hej
   obtain rfl:r'=_:=Yag (hr'.symm.trans hj)
   exact hs'.2
  have hrlt:∀(j:Nat) r,rs[j]? = some r->j<L.length:=λj r hj=>by have:=(Yae.1 hj).1;omega
  have hargs:∀y,y∈o.op.operands->AVr σ.hp.length ρ s1 (DZ σ (rs.map HY.hr) e y) (a'.eval y):=by
   intro y hy
   cases y with
   | tmp t=>
    show AVr _ ρ s1 (match e.find? (λp=>p.1==t) with
     | some p=>match (rs.map HY.hr)[p.2]? with
      | some h=>h.val
      | none=>.d CD
     | none=>(Ch σ.fr t).getD (.d CD)) (a'.tmps.getD t undef)
    cases hfd:e.find? (λp=>p.1==t) with
    | some p=>
     have hp:p∈e:=Ybl hfd
     have hpt:p.1=t:=by simpa using YcE hfd
     simp only
     rw [Yax]
     cases hrp:rs[p.2]? with
     | none=>trivial
     | some h=>
      obtain ⟨hpe,o',ho',hd'⟩:=hc.env p hp
      have h1:=inv.facts p.2 h hrp (hed _ hpe)
      have h2:=inv.a1 p.2 o' p.1 ho' (hed _ hpe) hd'
      have h3:a'.tmps.getD t undef=g p.2:=by rw [<-hpt,Yay,h2];rfl
      rw [h3]
      cases h with
      | av r=>exact h1
      | _=>trivial
    | none=>
     simp only
     have h1:a'.tmps[t]? = a.tmps[t]?:=by
      refine inv.a2 t λj oj hoj _ hdj=>?_
      rcases hc.out t hy with ⟨p,hp,e1⟩ | h
      .have:=Yce.1 hfd p hp
       simp [e1] at this
      .exact h oj (YaE hoj) hdj
     rw [Yay,h1,<-Yay]
     exact (hst.arg (.tmp t)).chg hle.chg
   | const v=>exact (show a'.eval (.const v)=v from rfl)
   | global b=>trivial
   | func f=>exact (show a'.eval (.func f)=_ from rfl)
  have ho2:L.toArray[i]? = some o:=by simpa using ho
  have quiet:o.guard=none->(∀j,r ≠ .st j)->RegG.OpStep P o a'.eval s1 (λv s2=>GS.Le s1 s2/\SFact σ.hp.length ρ s.w.heap.size (λk=>(listed.setIfInBounds i true).getD k false) i r v s2)->wpOp P L.toArray (GG s0 n Q) i (λa' w'=>∃g s',s'.w=w'/\SInvY σ L rs ρ s a (listed.setIfInBounds i true) g a' s') a' s1.w:=by
   intro hg hns h
   unfold wpOp
   rw [ho2]
   show if Region.wanted o (yielded L.toArray a'.tmps)=true then _ else _
   rw [Yan (by simp [Region.wanted,hg])]
   refine .inl (RegG.opStep_wp hc.ns (λ_ _=>rfl) h λv s2 ⟨h1,h2⟩=>⟨_,s2,rfl,inv.put hn hsz ho hc hun hed (inv.le.trans h1) (λj r' hr' hji hl=>?_) λr' hr'=>?_⟩)
   .refine (inv.facts j r' hr' hl).st h1 λT k ds e1=>?_
    subst e1
    refine hdone k λe2=>?_
    subst e2
    exact hns j (Yag (hr.symm.trans (hnewS j T k ds hr' (hrlt _ _ hr'))))
   .obtain rfl:r'=r:=Yag (hr'.symm.trans hr)
    exact h2
  have hnewrun:∀T cs,HStep P σ [] e o (.new T cs)->o.guard=none/\T≠335/\HP cs=true/\∃z:Value,z.cells.toList=cs/\(execOp a'.eval o).run P s1.w = .ok (.value (.pointer (some ⟨s1.w.heap.size,0,none⟩))) (s1.w.alloc (.cells z.cells T)):=λT cs h=>by
   obtain ⟨hg,hop,hT,h1,d,k,b,z,ht,hz⟩:=h
   exact ⟨hg,hT,h1,z,hz,by simp [execOp,hop,Instr.alloc,ht.run_zero,Ix]⟩
  cases r with
  | av r=>
   exact quiet hs.1 (λj h=>by cases h) (hs.2.run 0 s1 ρ a'.eval hok1 (Yaw _) hhp hargs)
  | new T cs=>
   obtain ⟨hg,hT,h1,z,hz,hrun⟩:=hnewrun T cs hs
   subst hz
   refine quiet hg (λj h=>by cases h) (Ja hrun (s1.mk' z.cells T (i+1)) rfl ⟨s1.le_mk' z.cells T (i+1) hT,s1.w.heap.size,rfl,hle.ext.size,heap_alloc_new s1.w _,λk hk=>absurd (hok1.lt _ _ hk) (Ycf _),?_,hT,h1⟩)
   show (if s1.w.heap.size=s1.w.heap.size then i+1 else _)=i+1
   rw [Yan rfl]
  | newS T k ds=>
   obtain ⟨⟨cs,hs,hcl⟩,hk⟩:=hs
   obtain ⟨hg,hT,h1,z,hz,hrun⟩:=hnewrun T cs hs
   subst hz
   refine quiet hg (λj h=>by cases h) (Ja hrun (s1.mk' z.cells T (i+1)) rfl ⟨s1.le_mk' z.cells T (i+1) hT,s1.w.heap.size,z.cells,rfl,hle.ext.size,heap_alloc_new s1.w _,λk hk=>absurd (hok1.lt _ _ hk) (Ycf _),?_,hT,by simpa using hcl,λhd=>?_⟩)
   .show (if s1.w.heap.size=s1.w.heap.size then i+1 else _)=i+1
    rw [Yan rfl]
   .exfalso
    have hki:k≠i:=λe1=>by
     subst e1
     rw [hr] at hk
     cases hk
    have hd:=(hdone k hki).symm.trans hd
    have hok':L[k]? = some (L[k]'(hrlt _ _ hk)):=Yac _
    obtain ⟨ek,hek,hck⟩:=Ji hok hok'
    obtain ⟨r',hr',hs'⟩:=hat' hok' hek
    obtain rfl:r'=_:=Yag (hr'.symm.trans hk)
    obtain ⟨_,_,T',x,y,T0,ds',d,b,z',_,hx,_⟩:=hs'
    have:=inv.closed k _ hok' hd i (hck.env _ hx).1
    rw [hun] at this
    cases this
  | st j=>
   obtain ⟨hg,hdn,T,x,y,T0,ds,d,b,z,hop,hx,hrj,hy,ht⟩:=hs
   obtain ⟨hje,oj,hoj,hdj⟩:=hc.env _ hx
   have hlj:=hed _ hje
   obtain ⟨gb,cs,e1,e2,e3,e4,e5,e6,e7,_⟩:=inv.facts j _ hrj hlj
   have hxv:a'.eval (.tmp x) = .pointer (some ⟨gb,0,none⟩):=by
    rw [<-e1]
    show a'.tmps.getD x undef=g j
    rw [Yay,inv.a1 j oj x hoj hlj hdj];rfl
   have hya:=hargs y (by rw [hop];simp [Op.operands])
   rw [hy] at hya
   obtain ⟨vs,p1,p2,p3⟩:=hya
   have hvone:∀v∈vs.toList,v.oneCell'=true:=λv hv=>by
    obtain ⟨k,hk,rfl⟩:=YcI hv
    simp at hk
    obtain ⟨u,h9,h10,_⟩:=p3 k (by omega)
    rw [YaN hk] at h9
    cases h9
    simpa using h10
   have hst1:=run_storeCells_at P gb 0 T0 vs.toList 0 cs s1.w e3 (by simp;omega) hvone
   simp only [Ybd] at hst1
   have hcont:(cs.toList.take 0++vs.toList++cs.toList.drop (0+vs.toList.length)).toArray=vs:=by
    rw [List.drop_of_length_le (by simp;omega)]
    simp
   rw [hcont] at hst1
   obtain ⟨W,hW⟩:∃W,W=s1.w.setRow gb vs:=⟨_,rfl⟩
   rw [<-hW] at hst1
   have hrun:(execOp a'.eval o).run P s1.w = .ok .skip W:=by
    simp [execOp,hop,hxv,p1,Instr.storeAt,Instr.sureAddr,storeVar,Value.cells,p2,ht.run_size,hst1]
   have hfar:∀b,b≠gb->W.heap[b]? = s1.w.heap[b]?:=λb hb=>by rw [hW];exact setRow_other s1.w gb b _ (λe=>hb e)
   have hnew:W.heap[gb]? = some (.cells vs T0 (0,0)):=by rw [hW];exact setRow_heap s1.w gb cs _ T0 _ e3
   have hwsz:W.heap.size=s1.w.heap.size:=by rw [hW];simp [World.setRow]
   have hok2 : s1.Ok → GS.Ok { s1 with w := W } := fun h => MV h (fun _ _ h => h) (by show _ ≤ W.heap.size; omega) (fun _ _ h => h) fun b ⟨c, fz, hb⟩ => by
    by_cases e:b=gb
    .subst e
     have hb:W.heap[b]? = _:=hb
     rw [hnew] at hb
     cases hb
     exact absurd rfl e6
    .exact ⟨c,fz,(hfar b e).symm.trans hb⟩
   have hch : GS.Chg s1 { s1 with w := W } := ⟨by show _ ≤ W.heap.size; omega, fun _ _ h => h, fun b c T fz hb => by
    by_cases e:b=gb
    .subst e
     rw [e3] at hb
     cases hb
     exact ⟨_,_,hnew,λk hk=>absurd hk (e4 k)⟩
    .exact ⟨c,fz,(hfar b e).trans hb,λ_ _=>rfl⟩⟩
   have hdrs:s.dr.w.heap.size=s.w.heap.size:=rfl
   have hle2:GS.Le s.dr { s1 with w:=W }:=by
    refine ⟨⟨?_,?_,?_,?_,λk hk=>?_⟩,inv.le.up,inv.le.old,inv.le.tag,λh=>hok2 (inv.le.ok h)⟩
    .rw [<-inv.le.ext.os];rw [hW];rfl
    .rw [<-inv.le.ext.tape];rw [hW];rfl
    .rw [<-inv.le.ext.output];rw [hW];rfl
    .show _<=W.heap.size
     rw [hwsz]
     exact inv.le.ext.size
    .show W.heap[k]? = _
     rw [hfar k (by omega)]
     exact inv.le.ext.block hk
   have hfin:SInvY σ L rs ρ s a (listed.setIfInBounds i true) (λk=>if k=i then undef else g k) (a'.put o.dst undef) { s1 with w:=W }:=by
    refine inv.put hn hsz ho hc hun hed hle2 (λj' r' hr' hji hl=>?_) λr' hr'=>?_
    .by_cases hjj:j'=j
     .subst hjj
      obtain rfl:r'=_:=Yag (hr'.symm.trans hrj)
      exact ⟨gb,vs,e1,e2,hnew,e4,e5,e6,p2,λ_ k hk=>by
       obtain ⟨u,q1,q2,q3⟩:=p3 k hk
       exact ⟨u,q1,q2,(DK ds k).st q3 hch⟩⟩
     .refine (inv.facts j' r' hr' hl).turn (g:=gb) (tg:=j) hch hfar (λ_ _ h=>h) (λ_=>rfl) e5 hjj λT' k' ds' e9=>?_
      subst e9
      refine hdone k' λe10=>?_
      subst e10
      have:=hnewS j' T' k' ds' hr' (hrlt _ _ hr')
      rw [hr] at this
      cases this
      exact hjj rfl
    .obtain rfl:r'=_:=Yag (hr'.symm.trans hr)
     trivial
   unfold wpOp
   rw [ho2]
   show if Region.wanted o (yielded L.toArray a'.tmps)=true then _ else _
   rw [Yan (by simp [Region.wanted,hg])]
   refine .inl ?_
   unfold Oper.wp
   rw [hrun]
   exact ⟨_,_,rfl,hfin⟩
 .rintro listed a' _ hsz ⟨g,s1,rfl,inv⟩ h0
  have hsz:listed.size=L.length:=by simpa using hsz
  have hall:∀i,i<L.length->listed.getD i false=true:=by
   intro i
   induction i using Nat.strongRecOn with
   | _ i ih=>
    intro hi
    have ho:L[i]? = some L[i]:=Yac hi
    obtain ⟨e,he,hc⟩:=Ji hok ho
    cases hg:listed.getD i false with
    | true=>rfl
    | false=>
     have:i∈Region.ready .any L.toArray listed:=(DC hsz ho).2 ⟨hg,λk hk=>ih k (hc.lt k hk) (by have:=hc.lt k hk;omega)⟩
     rw [h0] at this
     cases this
  have hle:GS.Le s s1:=(JZ s).trans inv.le
  have hst':StI s0 n σ a s1 ρ:=hst.put hle (dst:=none) (λd hd=>by cases hd) (v:=undef) (r:=.d CD) trivial
  have hdl:∀o∈L,∀d,o.dst=some d->d<n:=λo ho d hd=>by
   obtain ⟨i,hi⟩:=YbK ho
   obtain ⟨e,he,hc⟩:=Ji hok hi
   exact (hc.dst d hd).1
  obtain ⟨ρ',hfin⟩:=NG (g:=g) (L:=L) (rs:=rs) (i:=0) (W:=s.w.heap.size) (m:=σ.hp.length) (ρ0:=ρ) hl2 hst' (Yah _) (λ_ _=>rfl) hst.le.size (λk o b hk hv=>.inl ((hst.hp k o hk).blk_lt0 (OwB.le (hst.hp k o hk) hle hv))) (λj r hj=>by
   rw [YaH]
   refine (inv.facts j r hj (hall j (by have:=(Yae.1 hj).1;omega))).st (GS.Le.refl _) λT k ds e1=>?_
   subst e1
   have hjl:j<L.length:=by have:=(Yae.1 hj).1;omega
   have hoj:L[j]? = some L[j]:=Yac hjl
   obtain ⟨ej,hej,_⟩:=Ji hok hoj
   obtain ⟨r',hr',hs'⟩:=hat' hoj hej
   obtain rfl:r'=_:=Yag (hr'.symm.trans hj)
   have:=hs'.2
   exact (hall k (by have:=(Yae.1 this).1;omega)).symm) (λj o k hj hr=>by
   obtain ⟨ej,hej,_⟩:=Ji hok hj
   obtain ⟨r',hr',hs'⟩:=hat' hj hej
   obtain rfl:r'=_:=Yag (hr'.symm.trans hr)
   exact hs'.2.1) hdl
  have hpa:FA g L 0 a=a':=by
   obtain ⟨q1,q2,q3,q4⟩:=Hk (g:=g) L 0 a (λj k o o' d hj hk e1 e2=>by
    obtain ⟨e,he,hc⟩:=Ji hok hj
    exact ((hc.dst d e1).2 k o' hk e2).symm) (λo ho d hdo=>by rw [hn];exact hdl o ho d hdo)
   refine NH (Ydy λt=>?_) (q2.trans inv.adef.symm)
   by_cases ht:∃(j:Nat) (o:Oper),L[j]? = some o/\o.dst=some t
   .obtain ⟨j,o,hj,hdo⟩:=ht
    rw [q3 j o t hj hdo,inv.a1 j o t hj (hall j (Yae.1 hj).1) hdo]
    simp
   .rw [q4 t λj o hj e=>ht ⟨j,o,hj,e⟩,inv.a2 t λj o hj _ e=>ht ⟨j,o,hj,e⟩]
  rw [hpa] at hfin
  exact ⟨_,fin,s1,ρ',rfl,hfin⟩
 .rw [<-YdA]
  simp
section
variable {P:Program} {σ:AS} {rs:List HY} {es:List (Nat×Nat)} {i:Nat} {o:Oper}
theorem HYSteps.cons{x:List (Nat×Nat)}{r:HY}{L:List Oper}{S:List (List (Nat×Nat))}{T:List HY}(h:HYStep P σ rs x i o r)(Y:HYSteps P σ rs (i+1) L S T):HYSteps P σ rs i (o::L) (x::S) (r::T):=⟨h,Y⟩
theorem HYSteps.nil:HYSteps P σ rs i [] [] []:=trivial
theorem HYStep.q{r:AV}(A:o.guard=none)(l:Quiet P σ.hp o (DZ σ (rs.map HY.hr) es) r):HYStep P σ rs es i o (.av r):=⟨A,l⟩
theorem HYStep.n{T n b k:Nat}{ds:List D}(B:o.guard=none)(M:Tab P T d n b z)(G:o.op=.alloc T)(E:Nat.beq T 335=false)(A:HP z.cells.toList=true)(J:z.cells.toList.length=ds.length)(C:rs[k]? = some (.st i)):HYStep P σ rs es i o (.newS T k ds):=⟨⟨_,HStep.n B M G (YaI E) A,J⟩,C⟩
theorem HYStep.s{T x j n:Nat}{y:Operand}{ds:List D}{b:Nat}(A:o.guard=none)(I:o.dst=none)(G:o.op=.store T (.tmp x) y)(E:(x,j)∈es)(a:rs[j]? = some (.newS n i ds))(O:DZ σ (rs.map HY.hr) es y=.d (AP ds))(M:Tab P T d ds.length b z):HYStep P σ rs es i o (.st j):=⟨A,I,T,x,y,n,ds,d,b,z,G,E,a,O,M⟩
end
theorem FV{s0:An}{n:Nat}{Q:Exit->AS->Prop}{d τ:AS}{id:Nat}(x:P.follows .mixedOrders=true)(m:List (List (Nat×Nat)))(C:List HY)(F:Aa6 vf m n=true)(steps:HYSteps P d C 0 vf m C)(J:AS.le (d.aftS vf C) τ)(fin:Q .normal τ):AWp P s0 n (.region id vf.toArray true) Q d:=⟨λa w Y=>by
 refine wp_mono ((A42 (Q:=λe j=>e=.normal/\j=d.aftS vf C) x m C F steps ⟨rfl,rfl⟩).run a w Y) λe X N ⟨j,⟨b,A⟩,B⟩=>?_;subst b;subst A;exact⟨τ,fin,J _ _ _ _ B⟩⟩
section
variable {P:Program} {hp:List Ow} {arg:Operand->AV} {dd:Option Tmp} {ty:TypeId} {ps:String} {af:Array Edge} {gd:Option (Nat×Bool)}
theorem Mi{len n b g y:Nat}{R:AV->Prop}(M:Tab P t (.slice U) n b z)(E:Tab P U d g y u)(q:Nat.blt 0 len=true)(f:Nat.blt 0 g=true)(o:u.cells.size=g)(F:Nat.ble (len*g) 16777216=true)(A:HP u.cells.toList=true)(h:PC hp arg (λr=>∃C,Sd (λi=>some (i*g,g)) (List.replicate (len*g) CD) r=some C/\R (.d (flD U g (FG g len C)))) [] ub):∃r,Quiet P hp ⟨dd,.buildSlice t len ub.toArray,ty,ps,af,gd⟩ arg r/\R r:=by
 obtain⟨r,B,C,L,S⟩:=Lw h;exact⟨_,Ts rfl M E (by simpa[Ybm]using q) ZeG o (YbA F) A B (Lc L),S⟩
theorem Mb{e n b g B T k:Nat}(E:HW hp (arg x)=some (slD T k vm))(M:Tab P t (.slice e) n b z)(A:Tab P e d g B u)(C:g=k)(O:arg y=.d (ex (.int .i64 (vj:Nat))))(W:arg vS=.d (ex (.int .i64 (vj:Nat))))(a:vj<=vm.length):Quiet P hp ⟨dd,.slice t x none (some y) (some vS),ty,ps,af,gd⟩ arg (.d (flD T k (vm.take vj))):=Wp rfl E M A C O W a
theorem Jk{t T C k bytes m b:Nat}(E:arg x=.d (flD T k vm))(O:HW hp (arg y)=some (slD C k ul))(M:Tab P t (.slice T) m b u)(A:Tab P T d k bytes z)(a:z.cells.size=k)(B:(vm.length+ul.length)*bytes<=140737488355328)(U:vm.length+ul.length<=4611686018427387904):Quiet P hp ⟨dd,.call { callee:=.builtin .append,args:=#[x,y],argTypes:=#[t,t] },ty,ps,af,gd⟩ arg (.d (slD T k (vm++ul))):=A0W rfl E O M A a B U
end
theorem Mz{s0:An}{n:Nat}{e e2:Nat}{L z Z:List Oper}(x:P.follows .mixedOrders=true)(p:AddE e L z)(F:RY e L z=true)(O:AddE e2 z Z)(f:RY e2 z Z=true):DrawOk P s0 n b L.toArray Z vk (OnlyN vk):=⟨λa w h=>by
 have M:∀j,(Array.replicate L.toArray.size false).getD j false=false:=λj=>Zai
 have Y:Z.toArray.size=L.toArray.size:=by simp[p.length,O.length]
 rw[Y]at h;have G:∀c a w,¬GG s0 n (OnlyN vk) (.panic c) a w:=λc a w ⟨d,h,_⟩=>Zjf
 have J:¬LetsOut (GG s0 n (OnlyN vk)):=λ⟨a,w,d,h,_⟩=>Zjf
 have B:=KE O f G J _ _ _ _ (by simp[p.length]) (λj o _ J=>by rw[M]at J;cases J) h;have A:=KE p F G J _ _ _ _ ZbS (λj o _ J=>by rw[M]at J;cases J) B
 exact wp_mono (wp_region_any x A) λex X N ⟨d,h,Y⟩=>by
  obtain⟨rfl,h⟩:=h;exact⟨d,h,Y⟩⟩
theorem A4g(P:List Tm)(i:Nat)(K:i<8):(Ov P).testBit i=true↔∃t∈P,0<t.m i:=by
 have key:∀(P:List Tm) (s:Nat),(P.foldl (λs t=>s ||| suppTo t.m 8) s).testBit i=true↔s.testBit i=true\/∃t∈P,0<t.m i:=by
  intro P
  induction P with
  |nil=>intro s;simp
  |cons t P u=>
   intro s;rw[Ydv,u,YeI,Re t.m 8 i K];simp only[Ybg,Ybb,YaK,exists_eq_or_imp,or_assoc]
 rw[Ov,key];simp
theorem A4u{s t:Tm}(h:Ih s.m t.m≠0):Ia s t=Ih s.m t.m:=by
 rw[<-MJ]at h ⊢;exact Ql λe=>h (Qv.2 e)
theorem A2y{s t:Tm}(h:Ih s.m t.m=0):Ia s t=IC s.c t.c:=by
 rw[<-MJ]at h;exact Qm (Qv.1 h)
theorem Uy(P Q:List Tm)(E:PSz P 1000000000)(h:PSz Q 1000000000)(f:P.length<=1000000)(x:Q.length<=1000000):Abs prog 128 [BS P,BS Q] (ex (.int .i64 (CW P Q))):=by
 refine Ab func128 λv=>?_;rw[ntmps128];refine Go ?_;refine AC (λu d=>∃k,k<=P.length/\k<=Q.length/\CW P Q=CW (P.drop k) (Q.drop k)/\u=P.length-k/\d=⟨[(0,.d (BS P)),(1,.d (BS Q)),(5,.d (ex (.int .i64 (k:Nat))))],[]⟩) ?le ⟨0,by omega,by omega,rfl,rfl,rfl⟩ ?round
 case le=>exact Ac Zdb Zcc
 case round=>
  rintro m _ ⟨k,C,I,heq,rfl,rfl⟩;by_cases A:k<P.length
  .by_cases H:k<Q.length
   .have Y:=E _ (Dw A)
    have M:=h _ (Dw H);have B:=OH A H;have L:=GD (BA P k).m (BA Q k).m;have F:=A3r (BA P k).c (BA Q k).c Y M;by_cases J:Ih (BA P k).m (BA Q k).m=0
    .have K:Ih (P.getD k default).m (Q.getD k default).m=0:=J
     have e:=A2y J;by_cases o:IC (BA P k).c (BA Q k).c=0
     .rw [Yan (e.trans o)]at B
      refine Go ?_;refine Dy 12 ?_;refine ZfT ?_;refine Dy 12 ?_;refine ZfT ?_;refine Ah (P.length-(k+1)) ZbD ⟨k+1,by omega,by omega,by rw[heq,B],rfl,rfl⟩ ?_;exact Ac Zdb Zcc
     .rw [Yai (by rw [e]; exact o)] at B
      refine Go ?_;refine Dy 12 ?_;refine ZfT ?_;refine Dy 12 ?_;refine ZfT ?_;refine Dy 11 ?_;exact Zih
    .have e:=A4u J
     rw[Yai (by rw[e];exact J)]at B;refine Go ?_;refine Dy 12 ?_;refine ZfT ?_;refine Dy 11 ?_;exact Zih
   .have e:CW P Q=1:=by
     exact ZjX
    refine Go ?_;exact AA (Am (ResV.tmp rfl rfl) (Ae ZeT))
  .exact ZaU
def XK(Z s p:List Ow)(d C:Bool):List Ow:=bif C then p else bif d then s else Z
structure DStp2(P:Program)(frB:List (Nat×AV))(m0 m1 m2:List Ow)(ks:List AV)(es:List (Nat×Nat))(o:Oper)(r:AV):Prop where
 a:Quiet P m0 o (DZ ⟨frB,m0⟩ (ks.map HR.av) es) r
 b:Quiet P m1 o (DZ ⟨frB,m1⟩ (ks.map HR.av) es) r
 c:Quiet P m2 o (DZ ⟨frB,m2⟩ (ks.map HR.av) es) r
theorem DStp2.at{o:Oper}{r:AV}(h:DStp2 P vc H vz uR i vv o r):∀d C,Quiet P (XK H vz uR d C) o (DZ ⟨vc,XK H vz uR d C⟩ (i.map HR.av) vv) r
 |_,true=>h.c
 |true,false=>h.b
 |false,false=>h.a
def DTn(P:Program)(s0:An)(n:Nat)(A:List (Nat×AV))(S E:List Ow)(J:List AV)(c:Nat)(m:List (Nat×Nat))(o:Oper)(r:AV):Prop:=∀F:List (Nat×AV),(∀p∈F,(∃i,i≠c/\J[i]? = some p.2)\/p∈A)->∀(s:GS) (W:Nat->Value) (a:Act),StI s0 n ⟨F,S⟩ a s W->(∀y∈o.op.operands,AVr S.length W s (DZ ⟨A,S⟩ (J.map HR.av) m y) (a.eval y))->RegG.OpStep P o a.eval s λv j=>∃z,StI s0 n ⟨F,E⟩ a j z/\AVr S.length z j r v
theorem UG{s0:An}{n:Nat}{id:Nat}{V I:Ow}{c:Nat}{r:AV}(h:DTurn P s0 n vc H id V I i [] c vv va r)(E:EV H id V I false=H)(B:EV H id V I true=vz):DTn P s0 n vc H vz i c vv va r:=λF hF s W a Y G=>by
 unfold DTurn at h;rw[E,B]at h;exact h F (λp z=>(hF p z).imp (λ⟨A,B,C⟩=>⟨A,B,by simp,C⟩) λh=>h) s W a Y G
def DSteps2(P:Program)(s0:An)(n:Nat)(v:List (Nat×AV))(Z s p:List Ow)(J:List AV)(A E:Nat):Nat->List Oper->List (List (Nat×Nat))->List AV->Prop
 |i,o::L,x::S,r::R=>(bif Nat.beq i A then DTn P s0 n v Z s J A x o r else bif Nat.beq i E then DTn P s0 n v s p J E x o r else DStp2 P v Z s p J x o r)/\DSteps2 P s0 n v Z s p J A E (i+1) L S R
 |_,[],[],[]=>True
 |_,_,_,_=>False
section
variable {P:Program} {s0:An} {n:Nat} {frB:List (Nat×AV)} {m0 m1 m2:List Ow} {ks:List AV} {c1 c2:Nat}
theorem DSteps2.at:∀{L:List Oper} {S:List (List (Nat×Nat))} {R:List AV} {j:Nat},DSteps2 P s0 n frB m0 m1 m2 ks c1 c2 j L S R->∀(i:Nat) o x r,L[i]? = some o->S[i]? = some x->R[i]? = some r->(bif Nat.beq (j+i) c1 then DTn P s0 n frB m0 m1 ks c1 x o r else bif Nat.beq (j+i) c2 then DTn P s0 n frB m1 m2 ks c2 x o r else DStp2 P frB m0 m1 m2 ks x o r)
 |[],_,_,_,_,i,o,x,r,q,_,_=>by simp at q
 |_::_,[],_,_,_,i,o,x,r,_,E,_=>by simp at E
 |_::_,_::_,[],_,_,i,o,x,r,_,_,X=>by simp at X
 |w::L,N::S,C::R,j,⟨A,B⟩,0,o,x,r,q,E,X=>by
  simp at q E X;subst q;subst E;subst X;exact A
 |w::L,N::S,C::R,j,⟨A,B⟩,i+1,o,x,r,q,E,X=>by
  have:=DSteps2.at B i o x r Zee Zed (by simpa using X);rwa [show j+1+i=j+(i+1)by omega]at this
variable {i:Nat} {o:Oper} {L:List Oper} {x:List (Nat×Nat)} {S:List (List (Nat×Nat))} {r:AV} {R:List AV}
theorem DSteps2.q(f:Nat.beq i c1=false)(e:Nat.beq i c2=false)(p:Quiet P m0 o (DZ ⟨frB,m0⟩ (ks.map HR.av) x) r)(F:Quiet P m1 o (DZ ⟨frB,m1⟩ (ks.map HR.av) x) r)(I:Quiet P m2 o (DZ ⟨frB,m2⟩ (ks.map HR.av) x) r)(Y:DSteps2 P s0 n frB m0 m1 m2 ks c1 c2 (i+1) L S R):DSteps2 P s0 n frB m0 m1 m2 ks c1 c2 i (o::L) (x::S) (r::R):=⟨by rw[f,e];exact⟨p,F,I⟩,Y⟩
theorem DSteps2.k(f:Nat.beq i c1=true)(h:DTn P s0 n frB m0 m1 ks c1 x o r)(Y:DSteps2 P s0 n frB m0 m1 m2 ks c1 c2 (i+1) L S R):DSteps2 P s0 n frB m0 m1 m2 ks c1 c2 i (o::L) (x::S) (r::R):=⟨by rw[f];exact h,Y⟩
theorem DSteps2.l(f:Nat.beq i c1=false)(e:Nat.beq i c2=true)(h:DTn P s0 n frB m1 m2 ks c2 x o r)(Y:DSteps2 P s0 n frB m0 m1 m2 ks c1 c2 (i+1) L S R):DSteps2 P s0 n frB m0 m1 m2 ks c1 c2 i (o::L) (x::S) (r::R):=⟨by rw[f,e];exact h,Y⟩
theorem DSteps2.nil:DSteps2 P s0 n frB m0 m1 m2 ks c1 c2 i [] [] []:=trivial
end
theorem A1s{s0:An}{n:Nat}(S u m:Nat)(xc xs:List Nat)(R:List AV)(G:List (List (Nat×Nat)))(v F:List (Nat×AV))(m1 m2:List Ow)(O:P.follows .mixedOrders=true)(xf:FrIn vc v)(xa:(Nat.blt S m&&Nat.blt u m && !Nat.beq S u)=true)(V:Nat.blt m vf.length=true)(xr:m1.length=H.length)(xl:m2.length=H.length)(xi:((List.range (vf.length-m)).all λt=>(match vf[m+t]? with | some o=>Bz o | none=>[]).all λk=>decide (k<m+t))=true)(xk:((List.range (vf.length-m-1)).all λt=>(match vf[m+t+1]? with | some o=>Bz o | none=>[]).contains (m+t))=true)(xg:(Mt vf [m] xc&&(List.range m).all λj=>xc.contains j)=true)(xj:(Mt vf [u] xs&&xs.contains S)=true)
  (steps:DSteps2 P s0 n v H m1 m2 R S u 0 (vf.take m) G R) (Q:YB (vf.take m) G R v n=true) (hF:FrIn (Qe (vf.take m) R v) F) (fin:AWl P s0 n vf.toArray vk (vf.drop m) ⟨F,m2⟩):AWp P s0 n (.region b vf.toArray true) vk ⟨vc,H⟩:=by
 simp only[Yam,Bool.not_eq_true']at xa xj;obtain⟨⟨xu,xv⟩,xq⟩:=xa;have xw:S≠u:=λe=>by rw[e,YcQ]at xq;cases xq
 have xh:∀b1 b2,(XK H m1 m2 b1 b2).length=H.length:=λb1 b2=>by cases b2<;>cases b1<;>first | rfl | exact xr | exact xl
 have d:∀f,IQ f [] 0 R=R:=λf=>A1x λq l=>by cases l
 refine UI (fun _ => True) m xc (fun f => XK H m1 m2 (f S) (f u)) [] R G v F (HM O) xf V trivial rfl (fun f => xh _ _) (fun _ => xi) xk xg (fun i o x r M E X => ?_) Q (by rw [d]; exact hF) (fun _ => by
  show AWl P s0 n vf.toArray vk (vf.drop m) ⟨F,XK H m1 m2 (Nat.blt S m) (Nat.blt u m)⟩;rw[xu,xv];exact fin)
 have Y:=steps.at i o x r M E X;rw[YaH]at Y
 have K:i<m:=by
  have:=(Yae.1 M).1;rw[YaO]at this;omega
 have y:vf[i]? = some o:=by
  rwa [YaJ,Yan K]at M
 have xo:∀c,i≠c->Nat.beq i c=false:=λc h=>Yet.2 λe=>h (Yao e)
 have xt:∀(mA mB:List Ow),mA.length=H.length->(∀f,Can vf f i o->XK H m1 m2 (f S) (f u)=mA/\XK H m1 m2 (HC f i S) (HC f i u)=mB)->DTn P s0 n v mA mB R i x o r->XTurn P s0 n vf v (λf=>XK H m1 m2 (f S) (f u)) [] R i x o r:=λmA mB hA U Y f I F' xn s W a T J=>by
  obtain⟨Z,N⟩:=U f I
  dsimp only at T J ⊢
  rw[Z]at T J ⊢;rw[d]at J;rw[N];exact Y F' (λp z=>(xn p z).imp (λ⟨j,A,B,L⟩=>⟨j,(λe=>by rw[e,I.no]at A;cases A),L⟩) λh=>h) s W a T J
 by_cases xe:i=S
 .subst xe
  rw[YcQ]at Y;refine(xt H m1 rfl (λf I=>?_) Y).step λ_ _ _=>trivial
  have xd:f u=false:=by
   cases g:f u with
   |false=>rfl
   |true=>
    have:=LH xj.1 I.cl (λk C w y e' xb=>by
     obtain rfl:k=u:=by simpa using C
     exact I.cl _ w y g e' xb) i (by simpa using xj.2)
    rw[I.no]at this;cases this
  rw[LD,Nd xw,I.no,xd];exact⟨rfl,rfl⟩
 by_cases xp:i=u
 .subst xp
  rw[xo S xe,YcQ]at Y;refine(xt m1 m2 xr (λf I=>?_) Y).step λ_ _ _=>trivial
  have xm:f S=true:=LH xj.1 I.cl (λk C w xx e' xb=>by
   obtain rfl:k=i:=by simpa using C
   obtain rfl:w=o:=Yag (xx.symm.trans y);exact I.ed e' xb) S (by simpa using xj.2)
  rw[LD,xm,I.no];exact⟨rfl,by cases HC f i S<;>rfl⟩
 rw[xo S xe,xo u xp]at Y;have Y:DStp2 P v H m1 m2 R x o r:=Y
 exact XStep.q (fun _ _ h => h) (fun f => by rw [Nd xe, Nd xp]) fun f _ => by
  rw[d];exact Y.at _ _
def B8(l:List Nat):Prop:=∀z∈l,z<256
theorem B8.nil:B8 []:=λ_ h=>by cases h
theorem B8.app{a b:List Nat}(p:B8 a)(F:B8 b):B8 (a++b):=λz h=>(YbP.1 h).elim (p z) (F z)
theorem B8.flat(h:∀x,B8 (uc x))(l:List e):B8 (l.flatMap uc):=λz o=>by
 obtain⟨x,-,E⟩:=Yey.1 o;exact h x z E
theorem VA(n:Nat):B8 (Bv n):=by
 induction n using Nat.strongRecOn with
 |ind n u=>
  rw[Bv];split
  .intro z o
   rw[YaC.1 o];omega
  .intro z o
   rcases YaK.1 o with rfl | o
   .omega
   .exact u _ ZbD z o
theorem A6S(w:Nat):B8 (Cw w):=λz o=>by
 simp only[Cw,YaK,YeA,or_false]at o;omega
theorem VI(b:Bool)(l:List Nat):B8 (Fw b l):=.app (VA _) (.flat A6S l)
theorem Rq(q:RQ):B8 (CC q):=.app (VI _ _) (VI _ _)
theorem OK(h:∀x,B8 (uc x))(f:Nat->e):B8 (Jt uc f):=.flat (λ_=>h _) _
theorem Hx(h:∀x,B8 (uc x))(l:List e):B8 (Br uc l):=.app (VA _) (.flat h l)
theorem A6Z(t:RTm):B8 (Es t):=.app (.app (VI _ _) (VI _ _)) (OK (λ_=>VA _) _)
theorem Vp(p:List RTm):B8 (CB p):=Hx A6Z p
theorem JK(p:List (List RTm)):B8 (Bf p):=Hx Vp p
theorem Rc(p:List (List (List RTm))):B8 (BJ p):=Hx JK p
theorem Kj(z:Int):B8 (Bo z):=VA _
theorem XA(o:List (Nat->Int)):B8 (Cs o):=Hx (OK Kj) o
theorem A4j(o:List RQ):B8 (Ge o):=Hx Rq o
theorem A8G(a:RQ×RQ):B8 (GC a):=.app (Rq _) (Rq _)
theorem YK(a:List (Nat->RQ×RQ)):B8 (EQ a):=Hx (OK A8G) a
theorem Ab4(a:RQ×List RTm):B8 (JD a):=.app (Rq _) (Vp _)
theorem Aa1(k:Cor):B8 (FS k):=.app (.app (Kj _) (JK _)) (JK _)
theorem Aa4(c:Clm):B8 (Ii c):=.app (.app (.app (.app (.app (.app (.app (.app (Kj _) (Vp _)) (Kj _)) (Kj _)) (Kj _)) (XA _)) (JK _)) (Hx Kj _)) (YK _)
theorem A9b(r:Rsl):B8 (Js r):=.app (.app (OK Kj _) (A4j _)) (OK A4j _)
theorem A9Y(e:Crt):B8 (JU e):=.app (.app (.app (.app (.app (.app (.app (.app (.app (.app (.app (Kj _) (JK _)) (JK _)) (XA _)) (Rc _)) (Rc _)) (Rc _)) (A9b _)) (Hx A8G _)) (Hx Ab4 _)) (Hx (OK Rq) _)) (YK _)
theorem OV(f:Fct):B8 (ED f):=.app (.app (Aa1 _) (Aa4 _)) (A9Y _)
end
