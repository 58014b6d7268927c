/- Part 2 of the proof of squaresGram_holds. No condition. -/
import Derived.Laws.AppendOwn
import Derived.Test.YtnbfnoebjjdmnaaGreatGm1
set_option linter.unusedSimpArgs false
set_option linter.unusedVariables false
set_option maxRecDepth 100000
namespace Go.Proofs.YtnbfnoebjjdmnaaGreat
open Go.RowKit
structure GS where
 S:Nat->Nat->Prop
 tag:Nat->Nat
 w:World
structure GS.Ok(s:GS):Prop where
 lt:∀b k,s.S b k->b<s.w.heap.size
 safe:∀b k,Ty s.w b 108->s.S b k
structure GS.Chg(s s':GS):Prop where
 size:s.w.heap.size<=s'.w.heap.size
 up:∀b k,s.S b k->s'.S b k
 cell:∀b cs T fz,s.w.heap[b]? = some (.cells cs T fz)->∃cs' fz',s'.w.heap[b]? = some (.cells cs' T fz')/\∀k,s.S b k->cs'[k]? = cs[k]?
structure GS.Le(s s':GS):Prop where
 ext:Ext s.w s'.w
 up:∀b k,s.S b k->s'.S b k
 old:∀b k,b<s.w.heap.size->s'.S b k->s.S b k
 tag:∀b,b<s.w.heap.size->s'.tag b=s.tag b
 ok:s.Ok->s'.Ok
theorem GS.Le.refl(s:GS):GS.Le s s:=⟨Ext.refl _,λ_ _ h=>h,λ_ _ _ h=>h,λ_ _=>rfl,λh=>h⟩
theorem GS.Le.trans{a b c:GS}(h:GS.Le a b)(k:GS.Le b c):GS.Le a c:=
 ⟨h.ext.trans k.ext,λb k' h'=>k.up _ _ (h.up _ _ h'),λx k' hx h'=>h.old _ _ hx (k.old _ _ (Nat.lt_of_lt_of_le hx h.ext.size) h'),λx hx=>(k.tag x (Nat.lt_of_lt_of_le hx h.ext.size)).trans (h.tag x hx),λh'=>k.ok (h.ok h')⟩
theorem GS.Le.chg{a b:GS}(h:GS.Le a b):GS.Chg a b:=⟨h.ext.size,h.up,λx cs T fz hx=>⟨cs,fz,(h.ext.block (AU hx)).trans hx,λ_ _=>rfl⟩⟩
theorem GS.Chg.refl(s:GS):GS.Chg s s:=(GS.Le.refl s).chg
theorem GS.Chg.trans{a b c:GS}(h:GS.Chg a b)(k:GS.Chg b c):GS.Chg a c:=
 ⟨Nat.le_trans h.size k.size,λx y h'=>k.up _ _ (h.up _ _ h'),λx cs T fz hx=>by
  obtain ⟨cs1,f1,h1,h2⟩:=h.cell x cs T fz hx
  obtain ⟨cs2,f2,h3,h4⟩:=k.cell x cs1 T f1 h1
  exact ⟨cs2,f2,h3,λy hy=>(h4 y (h.up _ _ hy)).trans (h2 y hy)⟩⟩
theorem GS.Le.heap{s:GS}{w':World}(h:Ext s.w w')(he:w'.heap=s.w.heap):GS.Le s { s with w:=w' }:=
 ⟨h,λ_ _ h=>h,λ_ _ _ h=>h,λ_ _=>rfl,λh'=>⟨λb k hb=>by show b<w'.heap.size;rw [he];exact h'.lt b k hb,λb k ⟨cs,fz,hb⟩=>h'.safe b k ⟨cs,fz,by rw [<-he];exact hb⟩⟩⟩
def GS.grown(s:GS)(w':World):GS:=⟨λb k=>s.S b k\/(s.w.heap.size<=b/\b<w'.heap.size),s.tag,w'⟩
theorem Gd{s:GS}{w':World}(h:Ext s.w w'):GS.Le s (s.grown w'):=
 ⟨h, fun _ _ h => .inl h, fun b k hb h' => h'.elim id fun h2 => absurd hb (by omega), fun _ _ => rfl, fun h' => ⟨fun b k hb => hb.elim (fun h2 => Nat.lt_of_lt_of_le (h'.lt b k h2) h.size) fun h2 => h2.2, fun b k ⟨cs, fz, hb⟩ => by
  rcases Nat.lt_or_ge b s.w.heap.size with h1 | h1
  .exact .inl (h'.safe b k ⟨cs,fz,(h.block h1).symm.trans hb⟩)
  .exact .inr ⟨h1,AU hb⟩⟩⟩
def GS.mk'(s:GS)(cs:Array Value)(T:TypeId)(i:Nat):GS:=⟨s.S,λb=>if b=s.w.heap.size then i else s.tag b,s.w.alloc (.cells cs T)⟩
theorem GS.le_mk'(s:GS)(cs:Array Value)(T:TypeId)(i:Nat)(hT:T≠108):GS.Le s (s.mk' cs T i):=
 ⟨(Ext.refl _).alloc _, fun _ _ h => h, fun _ _ _ h => h, fun b hb => by show (if b = s.w.heap.size then i else s.tag b) = _; rw [if_neg (by omega)], fun h' => ⟨fun b k hb => Nat.lt_of_lt_of_le (h'.lt b k hb) (by show _ ≤ (s.w.alloc _).heap.size; simp), fun b k ⟨c2, fz, hb⟩ => by
  replace hb:(s.w.alloc (.cells cs T)).heap[b]? = some (.cells c2 108 fz):=hb
  rcases Nat.lt_or_ge b s.w.heap.size with h1 | h1
  .exact h'.safe b k ⟨c2,fz,(Below.heap_alloc s.w _ b h1).symm.trans hb⟩
  .exfalso
   have h2:=AU hb
   have h3:b=s.w.heap.size:=by have h4:(s.w.alloc (.cells cs T)).heap.size=s.w.heap.size+1:=Array.size_push ..;omega
   rw [h3,heap_alloc_new] at hb
   cases hb
   exact hT rfl⟩⟩
structure D where
 rel:GS->Value->Prop
 st:∀{s s':GS} {v:Value},rel s v->GS.Chg s s'->rel s' v
def ex(u:Value):D:=⟨λ_ v=>v=u,λh _=>h⟩
def Dp:D:=⟨λ_ _=>True,λh _=>h⟩
instance:Inhabited D:=⟨Dp⟩
def Cj(ds:List D)(k:Nat):D:=ds.getD k Dp
def BF(ds:List D):D:=⟨λs v=>∃cs:Array Value,v = .agg cs/\cs.size=ds.length/\∀k,k<ds.length->∃u,cs[k]? = some u/\u.oneCell'=true/\(Cj ds k).rel s u,
 λ⟨cs,h1,h2,h3⟩ hc=>⟨cs,h1,h2,λk hk=>let ⟨u,h4,h5,h6⟩:=h3 k hk;⟨u,h4,h5,(Cj ds k).st h6 hc⟩⟩⟩
def CK(ds:List D):D:=⟨λs v=>∃cs:Array Value,v = .tuple cs/\cs.size=ds.length/\∀k,k<ds.length->∃u,cs[k]? = some u/\(Cj ds k).rel s u,
 λ⟨cs,h1,h2,h3⟩ hc=>⟨cs,h1,h2,λk hk=>let ⟨u,h4,h6⟩:=h3 k hk;⟨u,h4,(Cj ds k).st h6 hc⟩⟩⟩
def Lies(s:GS)(b o:Nat)(T:TypeId)(ds:List D):Prop:=
 ∃cs fz,s.w.heap[b]? = some (.cells cs T fz)/\∀k,k<ds.length->s.S b (o+k)/\∃u,cs[o+k]? = some u/\u.oneCell'=true/\(Cj ds k).rel s u
theorem Lies.st{s s':GS}{b o:Nat}{T:TypeId}{ds:List D}(h:Lies s b o T ds)(hc:GS.Chg s s'):Lies s' b o T ds:=by
 obtain ⟨cs,fz,h1,h2⟩:=h
 obtain ⟨cs',fz',h3,h4⟩:=hc.cell b cs T fz h1
 refine ⟨cs',fz',h3,λk hk=>?_⟩
 obtain ⟨h5,u,h6,h7,h8⟩:=h2 k hk
 exact ⟨hc.up _ _ h5,u,(h4 _ h5).trans h6,h7,(Cj ds k).st h8 hc⟩
theorem Lies.nil{s:GS}{b o:Nat}{T:TypeId}{cs:Array Value}{fz:Nat×Nat}(h:s.w.heap[b]? = some (.cells cs T fz)):Lies s b o T []:=⟨cs,fz,h,λk hk=>absurd hk (by simp)⟩
theorem Lies.cell{s:GS}{b o:Nat}{T:TypeId}{ds:List D}(h:Lies s b o T ds){k:Nat}(hk:k<ds.length):∃u,s.w.cell? ⟨b,o+k,none⟩=some u/\u.oneCell'=true/\(Cj ds k).rel s u:=by
 obtain ⟨cs,fz,h1,h2⟩:=h
 obtain ⟨_,u,h3,h4⟩:=h2 k hk
 exact ⟨u,(BK h1).trans h3,h4⟩
theorem MB(ds:List D)(i k:Nat):Cj (ds.drop i) k=Cj ds (i+k):=by simp [Cj,List.getElem?_drop]
theorem MA{ds:List D}{i k:Nat}(h:k<i):Cj (ds.take i) k=Cj ds k:=by simp [Cj,List.getElem?_take,h]
theorem Lies.drop{s:GS}{b o:Nat}{T:TypeId}{ds:List D}(h:Lies s b o T ds)(i:Nat):Lies s b (o+i) T (ds.drop i):=by
 obtain ⟨cs,fz,h1,h2⟩:=h
 refine ⟨cs,fz,h1,λk hk=>?_⟩
 rw [List.length_drop] at hk
 rw [MB,Nat.add_assoc]
 exact h2 (i+k) (by omega)
def Is(T:TypeId)(ds:List D):D:=⟨λs v=>∃b o,v = .pointer (some ⟨b,o,none⟩)/\Lies s b o T ds,λ⟨b,o,h1,h2⟩ hc=>⟨b,o,h1,h2.st hc⟩⟩
def slD(T:TypeId)(sz:Nat)(rows:List (List D)):D:=
 ⟨λs v=>∃(A:Option Addr) (c:Nat),v = .slice A rows.length c/\rows.length<=c/\c<=9223372036854775807 /\
  (0<rows.length->∃b o,A=some ⟨b,o,none⟩/\(∀k,k<rows.length->(rows.getD k []).length=sz/\Lies s b (o+k*sz) T (rows.getD k []))),
 λ⟨A,c,h1,h2,h3,h4⟩ hc=>⟨A,c,h1,h2,h3,λh0=>let ⟨b,o,h5,h6⟩:=h4 h0;⟨b,o,h5,λk hk=>⟨(h6 k hk).1,(h6 k hk).2.st hc⟩⟩⟩⟩
def Uc{α:Type}(p:α->Prop)(f:α->D):D:=⟨λs v=>∃x,p x/\(f x).rel s v,λ⟨x,h1,h2⟩ hc=>⟨x,h1,(f x).st h2 hc⟩⟩
def D.le(x y:D):Prop:=∀s v,x.rel s v->y.rel s v
theorem D.le.refl(x:D):D.le x x:=λ_ _ h=>h
theorem Be{x y:D}(h:x=y):D.le x y:=h▸D.le.refl x
theorem slD.nil(T:TypeId)(sz:Nat)(s:GS):(slD T sz []).rel s (.slice none 0 0):=⟨none,0,rfl,by simp,by omega,λh=>absurd h (by simp)⟩
theorem NG(rows:List (List D))(i k:Nat):(rows.drop i).getD k []=rows.getD (i+k) []:=by simp [List.getElem?_drop]
theorem NF{rows:List (List D)}{i k:Nat}(h:k<i):(rows.take i).getD k []=rows.getD k []:=by simp [List.getElem?_take,h]
end Go.Proofs.YtnbfnoebjjdmnaaGreat
namespace Go.Proofs.YtnbfnoebjjdmnaaGreat
namespace RegG
open Go.RowKit
def _root_.Go.Proofs.YtnbfnoebjjdmnaaGreat.GS.dr(s:GS):GS:={ s with w:=s.w.drew }
def OpStep(P:Program)(o:Oper)(ev:Operand->Value)(s:GS)(R:Value->GS->Prop):Prop:=
 match (execOp ev o).run P s.w with
 | .ok (.value v) w'=>∃s':GS,s'.w=w'/\R v s'
 | .ok .skip w'=>∃s':GS,s'.w=w'/\R undef s'
 | .ok (.enter f args) w'=>Calls P f args w' λe w''=>∃v,e = .returned v/\∃s':GS,s'.w=w''/\R v s'
 | _=>False
theorem opStep_wp{P:Program}{o:Oper}{ev:Operand->Value}{a':Act}{w':GS}{Q:Exit->Act->World->Prop}{R:Value->GS->Prop}{K:Act->World->Prop}(hns:Cd o.op=true)(hev:∀y∈o.op.operands,a'.eval y=ev y)
  (h:OpStep P o ev w' R) (hK:∀v (w'':GS),R v w''->K (a'.put o.dst v) w''.w):o.wp P a' w'.w K Q:=by
 unfold Oper.wp
 have hs:∀cs b,o.op ≠ .select cs b:=by
  intro cs b e
  rw [e] at hns
  cases hns
 rw [execOp_congr o hs hev]
 unfold OpStep at h
 split at h
 .rename_i v w'' hr;rw [hr];obtain ⟨s',rfl,h⟩:=h;exact hK _ _ h
 .rename_i w'' hr;rw [hr];obtain ⟨s',rfl,h⟩:=h;exact hK _ _ h
 .rename_i f args w'' hr
  rw [hr]
  exact Calls.mono h λe w3 ⟨v,he,s',hs',hR⟩=>by subst he;subst hs';exact hK _ _ hR
 .exact h.elim
abbrev Fact:=List Value->GS->Prop
def Known(sh:List Shape)(Rs:List Fact)(i:Nat)(g:Nat->Value)(w:GS):Prop:=
 ∀x,sh[i]? = some x->∀j∈x.bef,∀y F,sh[j]? = some y->Rs[j]? = some F->F (y.deps.map g) w
def StepAt(P:Program)(sh:List Shape)(Rs:List Fact)(a:Act)(w0:GS)(i:Nat)(o:Oper)(x:Shape)(F:Fact):Prop:=
 ∀(g:Nat->Value) (w:GS) (ev:Operand->Value),GS.Le w0 w->Known sh Rs i g w->Ox ev g x.env ->
  (∀t,(∀p∈x.env,p.1≠t)->ev (.tmp t)=a.tmps.getD t undef)->(∀v,ev (.const v)=v)->(∀f,ev (.func f) = .func (.func f) #[] #[]) ->
  (Dv o g=true->OpStep P o ev w λv w'=>GS.Le w w'/\F (x.deps.map (upd g i v)) w')/\(Dv o g=false->F (x.deps.map (upd g i undef)) w)
def StepsAt(P:Program)(sh:List Shape)(Rs:List Fact)(a:Act)(w0:GS):Nat->List Oper->List Shape->List Fact->Prop
 | i,o::L,x::S,F::T=>StepAt P sh Rs a w0 i o x F/\StepsAt P sh Rs a w0 (i+1) L S T
 | _,_,[],[]=>True
 | _,_,_,_=>False
theorem StepsAt.at{P:Program}{sh:List Shape}{Rs:List Fact}{a:Act}{w0:GS}:∀{S:List Shape} {T:List Fact} {L:List Oper} {i:Nat},StepsAt P sh Rs a w0 i L S T ->
  S.length=T.length/\∀k o x,L[k]? = some o->S[k]? = some x->∃F,T[k]? = some F/\StepAt P sh Rs a w0 (i+k) o x F
 | [],[],L,i,_=>⟨rfl,λk o x _ hx=>by simp at hx⟩
 | [],_::_,L,i,h=>by cases L<;>exact h.elim
 | _::_,[],L,i,h=>by cases L<;>exact h.elim
 | x::S,F::T,[],i,h=>h.elim
 | x::S,F::T,o::L,i,h=>by
  obtain ⟨h1,h2⟩:=h
  obtain ⟨hl,hh⟩:=StepsAt.at h2
  refine ⟨by simp [hl],λk o' x' ho hx=>?_⟩
  cases k with
  | zero=>
   simp at ho hx
   subst ho;subst hx
   exact ⟨F,rfl,h1⟩
  | succ k=>
   simp at ho hx
   obtain ⟨F',hF,hs⟩:=hh k o' x' ho hx
   refine ⟨F',by simpa using hF,?_⟩
   have:i+(k+1)=i+1+k:=by omega
   rw [this]
   exact hs
section
variable {P:Program} {L:List Oper} {sh:List Shape} {Rs:List Fact} {a:Act} {w0:GS}
structure HInv(L:List Oper)(sh:List Shape)(Rs:List Fact)(a:Act)(w0:GS)(listed:Array Bool)(g:Nat->Value)(a':Act)(w':GS):Prop where
 size:listed.size=L.length
 closed:∀j o,L[j]? = some o->listed.getD j false=true->∀e∈BT o,listed.getD e false=true
 tail:∀t,sh.length<=t->listed.getD t false=false
 asz:a'.tmps.size=a.tmps.size
 adef:a'.defers=a.defers
 a1:∀j o d,j<sh.length->L[j]? = some o->listed.getD j false=true->o.dst=some d->a'.tmps[d]? = some (g j)
 a2:∀t,(∀j o,j<sh.length->L[j]? = some o->listed.getD j false=true->o.dst≠some t)->a'.tmps[t]? = a.tmps[t]?
 facts:∀j y F,sh[j]? = some y->Rs[j]? = some F->listed.getD j false=true->F (y.deps.map g) w'
 ext:GS.Le w0 w'
theorem step_inv(hok:CG L sh=true)(hd:EO L sh.length a.tmps.size=true)
  (hstab:∀F∈Rs,∀vs w1 w2,GS.Le w1 w2->F vs w1->F vs w2)
  {listed:Array Bool} {g:Nat->Value} {a':Act} {w':GS} (inv:HInv L sh Rs a w0 listed g a' w') {i:Nat} {o:Oper} {x:Shape} {F:Fact} (ho:L[i]? = some o) (hx:sh[i]? = some x) (hF:Rs[i]? = some F)
  (hun:listed.getD i false=false) (hed:∀e∈BT o,listed.getD e false=true) {v:Value} {w'':GS} (he:GS.Le w' w'') (hf:F (x.deps.map (upd g i v)) w'') :
  HInv L sh Rs a w0 (listed.setIfInBounds i true) (upd g i v) (a'.put o.dst v) w'':=by
 have hin:i<sh.length:=Db hx
 have hil:i<listed.size:=by rw [inv.size];exact (List.getElem?_eq_some_iff.1 ho).1
 have hset:∀j,(listed.setIfInBounds i true).getD j false=true->j≠i->listed.getD j false=true:=λj h hj=>by
  rw [getD_set_ne false (λe=>hj e.symm)] at h;exact h
 have hnb:∀j y oj,sh[j]? = some y->L[j]? = some oj->listed.getD j false=true->i∉y.bef:=λj y oj hy hoj hl hi=>by
  have:=CO hok inv.closed j y oj hy hoj (inv.closed j oj hoj hl) i hi
  rw [hun] at this;cases this
 refine ⟨by simp [inv.size],λj oj hoj hl e he'=>?_,λt ht=>?_,?_,?_,λj oj d hj hoj hl hdj=>?_,λt ht=>?_,λj y G hy hG hl=>?_,inv.ext.trans he⟩
 .by_cases hji:j=i
  .subst hji
   have:oj=o:=Option.some.inj (hoj.symm.trans ho)
   subst this
   exact getD_set_true (hed e he')
  .exact getD_set_true (inv.closed j oj hoj (hset j hl hji) e he')
 .rw [getD_set_ne false (by omega)];exact inv.tail t ht
 .unfold Act.put;split<;>simp [inv.asz]
 .unfold Act.put;split<;>simp [inv.adef]
 .by_cases hji:j=i
  .subst hji
   have:oj=o:=Option.some.inj (hoj.symm.trans ho)
   subst this
   have hdl:d<a'.tmps.size:=by
    rw [inv.asz]
    have h2:=List.all_eq_true.1 hd oj (List.mem_of_getElem? (i:=j) (by rw [List.getElem?_take];simp [hin,hoj]))
    simp only [hdj,decide_eq_true_eq] at h2
    exact h2
   simp [Act.put,hdj,upd,hdl]
  .have hlj:=hset j hl hji
   have hne:o.dst≠some d:=λe=>hji (Ee hok hj hin hoj ho hdj e)
   rw [show upd g i v j=g j by simp [upd,hji],<-inv.a1 j oj d hj hoj hlj hdj]
   unfold Act.put
   split
   .rename_i d' hd'
    have:d'≠d:=λe=>hne (by rw [hd',e])
    simp [Array.getElem?_setIfInBounds_ne this]
   .rfl
 .have h2:o.dst≠some t:=by
   refine ht i o hin ho ?_
   simp [hil]
  rw [<-inv.a2 t λj oj hj hoj hl=>ht j oj hj hoj (getD_set_true hl)]
  unfold Act.put
  split
  .rename_i d' hd'
   have:d'≠t:=λe=>h2 (by rw [hd',e])
   simp [Array.getElem?_setIfInBounds_ne this]
  .rfl
 .by_cases hji:j=i
  .subst hji
   have e1:y=x:=Option.some.inj (hy.symm.trans hx)
   have e2:G=F:=Option.some.inj (hG.symm.trans hF)
   subst e1;subst e2
   exact hf
  .have hlj:=hset j hl hji
   have hjl:j<L.length:=Nat.lt_of_lt_of_le (Db hy) (Cp hok)
   have hoj:L[j]? = some L[j]:=List.getElem?_eq_getElem hjl
   have hib:=hnb j y _ hy hoj hlj
   have hmap:y.deps.map (upd g i v)=y.deps.map g:=by
    refine List.map_congr_left λk hk=>?_
    have h1:=(BQ hok hoj).2.1 y hy
    simp only [Dt,Bool.and_eq_true] at h1
    have h2:=List.all_eq_true.1 h1.1.1.1.1.2 k hk
    simp only [Bool.or_eq_true,beq_iff_eq] at h2
    have hki:k≠i:=by
     rintro rfl
     rcases h2 with h2 | h2
     .exact hji h2.symm
     .exact hib (by simpa using h2)
    simp [upd,hki]
   rw [hmap]
   exact hstab G (List.mem_of_getElem? hG) _ _ _ he (inv.facts j y G hy hG hlj)
theorem eval_operands(hok:CG L sh=true){listed:Array Bool}{g:Nat->Value}{a':Act}{w':GS}(inv:HInv L sh Rs a w0 listed g a' w'){i:Nat}{o:Oper}{x:Shape}(ho:L[i]? = some o)(hx:sh[i]? = some x)
  (hun:listed.getD i false=false) (hed:∀e∈BT o,listed.getD e false=true):∀y∈o.op.operands,a'.eval y=Lc a g x.env y:=by
 intro y hy
 cases y with
 | tmp t=>
  show a'.tmps.getD t undef=_
  cases hfd:x.env.find? (λp=>p.1==t) with
  | some p=>
   have hp:p∈x.env:=List.mem_of_find?_eq_some hfd
   have hpt:p.1=t:=by simpa using List.find?_some hfd
   obtain ⟨h1,h2,o',ho',hd'⟩:=EL hok hx ho hp
   have hl:=CO hok inv.closed i x o hx ho hed p.2 h1
   have:=inv.a1 p.2 o' p.1 h2 ho' hl hd'
   simp only [Lc,hfd]
   rw [hpt] at this
   simp [this]
  | none=>
   simp only [Lc,hfd]
   have h1:=(BQ hok ho).2.1 x hx
   simp only [Dt,Bool.and_eq_true] at h1
   have h2:=List.all_eq_true.1 h1.1.1.2 (.tmp t) (by simpa using hy)
   simp only [Bool.or_eq_true] at h2
   rcases h2 with h2 | h2
   .exfalso
    have:t∈x.env.map (·.1):=by simpa using h2
    obtain ⟨p,hp,hpt⟩:=List.mem_map.1 this
    have:=List.find?_eq_none.1 hfd p hp
    simp [hpt] at this
   .have:a'.tmps[t]? = a.tmps[t]?:=by
     refine inv.a2 t λj oj hj hoj hl hdj=>?_
     have h3:=List.all_eq_true.1 h2 j (List.mem_range.2 hj)
     rw [hoj] at h3
     simp [hdj] at h3
     rcases h3 with h3 | h3
     .subst h3;rw [hun] at hl;cases hl
     .cases hy':sh[j]? with
      | none=>rw [List.getElem?_eq_none_iff] at hy';omega
      | some y'=>
       have:=CO hok inv.closed j y' oj hy' hoj (inv.closed j oj hoj hl) i (by simpa [Cn,hy'] using h3)
       rw [hun] at this;cases this
    rw [Array.getD_eq_getD_getElem?,Array.getD_eq_getD_getElem?,this]
 | const v=>rfl
 | global b=>rfl
 | func f=>rfl
theorem wanted_of(hok:CG L sh=true){listed:Array Bool}{g:Nat->Value}{a':Act}{w':GS}(inv:HInv L sh Rs a w0 listed g a' w'){i:Nat}{o:Oper}{x:Shape}(ho:L[i]? = some o)(hx:sh[i]? = some x)
  (hed:∀e∈BT o,listed.getD e false=true):Region.wanted o (yielded L.toArray a'.tmps)=Dv o g:=by
 unfold Region.wanted Dv
 cases hg:o.guard with
 | none=>rfl
 | some jb=>
  obtain ⟨j,b⟩:=jb
  have h1:=(BQ hok ho).2.1 x hx
  simp only [Dt,Bool.and_eq_true] at h1
  have h2:=h1.1.2
  rw [hg] at h2
  simp only [Bool.and_eq_true,decide_eq_true_eq] at h2
  obtain ⟨⟨h3,h4⟩,h5⟩:=h2
  have hl:=CO hok inv.closed i x o hx ho hed j (by simpa using h3)
  split at h5
  .rename_i o' ho'
   obtain ⟨d,hd'⟩:=Option.isSome_iff_exists.1 h5
   have:=inv.a1 j o' d h4 ho' hl hd'
   unfold yielded
   simp only [List.getElem?_toArray,ho',Option.bind_some,hd',this]
   cases g j<;>simp
  .cases h5
theorem head_run(hok:CG L sh=true)(hd:EO L sh.length a.tmps.size=true)
  (hstab:∀F∈Rs,∀vs w1 w2,GS.Le w1 w2->F vs w1->F vs w2) (hstep:StepsAt P sh Rs a w0 0 L sh Rs) {Q:Exit->Act->World->Prop}
  (hend:∀g w',GS.Le w0 w'->(∀(j:Nat) (y:Shape) (F:Fact),sh[j]? = some y->Rs[j]? = some F->F (y.deps.map g) w')->wpList P L.toArray Q (L.drop sh.length) (CM g (L.take sh.length) 0 a) w'.w) :
  ∀(f:Nat) (listed:Array Bool) (g:Nat->Value) (a':Act) (w':GS),Gj listed=f->HInv L sh Rs a w0 listed g a' w'->wpAny P .any L.toArray Q f listed a' w'.w:=by
 obtain ⟨hlen,hat⟩:=hstep.at
 intro f
 induction f with
 | zero=>
  intro listed g a' w' hf inv
  have hall:∀j,j<L.length->listed.getD j false=true:=λj hj=>by
   cases hg:listed.getD j false with
   | true=>rfl
   | false=>have:=Mo (by rw [inv.size];exact hj) hg;omega
  refine Jb hok 0 L.length listed a' w'.w (Cp hok) (by omega) inv.size hall (λj hj=>by simp [inv.size,hj]) ?_
  have hsl:sh.length=L.length:=by
   have:=Cp hok
   rcases Nat.lt_or_ge sh.length L.length with hlt | hge
   .have h1:=hall sh.length hlt
    rw [inv.tail _ (Nat.le_refl _)] at h1;cases h1
   .omega
  have:=hend g w' inv.ext λj y F hy hF=>inv.facts j y F hy hF (hall j (by have:=Db hy;omega))
  rw [hsl] at this
  have hpa:CM g (L.take L.length) 0 a=a':=by
   obtain ⟨p1,p2,p3,p4⟩:=Fy (g:=g) (L.take L.length) 0 a (λj k o o' d hj hk e1 e2=>by
    simp at hj hk
    exact Ee hok (by have:=(List.getElem?_eq_some_iff.1 hj).1;omega) (by have:=(List.getElem?_eq_some_iff.1 hk).1;omega) hj hk e1 e2) (λo ho d hdo=>by
    rw [<-hsl] at ho
    have h2:=List.all_eq_true.1 hd o ho
    simp only [hdo,decide_eq_true_eq] at h2
    exact h2)
   refine Lm (Array.ext_getElem? λt=>?_) (p2.trans inv.adef.symm)
   by_cases ht:∃(j:Nat) (o:Oper),L[j]? = some o/\o.dst=some t
   .obtain ⟨j,o,hj,hdo⟩:=ht
    rw [p3 j o t (by simpa using hj) hdo,inv.a1 j o t (by have:=(List.getElem?_eq_some_iff.1 hj).1;omega) hj (hall j (List.getElem?_eq_some_iff.1 hj).1) hdo]
    simp
   .rw [p4 t λj o hj e=>ht ⟨j,o,by simpa using hj,e⟩,inv.a2 t λj o _ hj _ e=>ht ⟨j,o,hj,e⟩]
  rw [hpa] at this
  exact this
 | succ f ih=>
  intro listed g a' w' hf inv
  by_cases hdone:∀j,j<sh.length->listed.getD j false=true
  .have hfl:f+1+sh.length=L.length:=by
    have key:∀(l:List Bool) (n:Nat),n<=l.length->(∀j,j<n->l[j]? = some true)->(∀j,n<=j->j<l.length->l[j]? = some false)->(l.filter (!·)).length+n=l.length:=by
     intro l
     induction l with
     | nil=>intro n hn _ _;simp at hn;simp [hn]
     | cons b l ihl=>
      intro n hn h1 h2
      cases n with
      | zero=>
       have hb:=h2 0 (Nat.le_refl _) (by simp)
       simp at hb
       subst hb
       have:=ihl 0 (by omega) (λj hj=>by omega) (λj _ hj=>by simpa using h2 (j+1) (by omega) (by simpa using hj))
       simp at this ⊢
       omega
      | succ n=>
       have hb:=h1 0 (by omega)
       simp at hb
       subst hb
       have:=ihl n (by simpa using hn) (λj hj=>by simpa using h1 (j+1) (by omega)) (λj hj1 hj2=>by simpa using h2 (j+1) (by omega) (by simpa using hj2))
       simp
       omega
    have := key listed.toList sh.length (by simpa [inv.size] using Cp hok) (fun j hj => by
      have h1:=hdone j hj
      have hjl:j<listed.size:=by rw [inv.size];have:=Cp hok;omega
      simp [hjl] at h1
      simp [hjl,h1]) (λj hj1 hj2=>by
      have h1:=inv.tail j hj1
      have hjl:j<listed.size:=by simpa using hj2
      simp [hjl] at h1
      simp [hjl,h1])
    have e1:(listed.toList.filter (!·)).length=f+1:=hf
    rw [e1] at this
    simpa [inv.size] using this
   refine Jb hok (f+1) sh.length listed a' w'.w (Nat.le_refl _) hfl inv.size hdone inv.tail ?_
   have:=hend g w' inv.ext λj y F hy hF=>inv.facts j y F hy hF (hdone j (Db hy))
   have hpa:CM g (L.take sh.length) 0 a=a':=by
    have hget:∀j o,(L.take sh.length)[j]? = some o->j<sh.length/\L[j]? = some o:=λj o h=>by
     rw [List.getElem?_take] at h
     split at h
     .exact ⟨by assumption,h⟩
     .cases h
    obtain ⟨p1,p2,p3,p4⟩:=Fy (g:=g) (L.take sh.length) 0 a (λj k o o' d hj hk e1 e2=>by
     obtain ⟨hj1,hj2⟩:=hget j o hj
     obtain ⟨hk1,hk2⟩:=hget k o' hk
     exact Ee hok hj1 hk1 hj2 hk2 e1 e2) (λo ho d hdo=>by
     have h2:=List.all_eq_true.1 hd o ho
     simp only [hdo,decide_eq_true_eq] at h2
     exact h2)
    refine Lm (Array.ext_getElem? λt=>?_) (p2.trans inv.adef.symm)
    by_cases ht:∃(j:Nat) (o:Oper),j<sh.length/\L[j]? = some o/\o.dst=some t
    .obtain ⟨j,o,hjn,hj,hdo⟩:=ht
     rw [p3 j o t (by rw [List.getElem?_take,if_pos hjn];exact hj) hdo,inv.a1 j o t hjn hj (hdone j hjn) hdo]
     simp
    .rw [p4 t λj o hj e=>ht ⟨j,o,(hget j o hj).1,(hget j o hj).2,e⟩,inv.a2 t λj o hjn hj _ e=>ht ⟨j,o,hjn,hj,e⟩]
   rw [hpa] at this
   exact this
  .have hex:∃j,j<sh.length/\listed.getD j false=false:=Classical.byContradiction λhno=>hdone λj hj=>by
    cases hg:listed.getD j false with
    | true=>rfl
    | false=>exact absurd ⟨j,hj,hg⟩ hno
   obtain ⟨j0,hj0,hu0⟩:=hex
   refine ⟨λh0=>?_,λi hi=>?_⟩
   .obtain ⟨k,_,hk⟩:=HI hok inv.size j0 (Nat.lt_of_lt_of_le hj0 (Cp hok)) hu0
    rw [h0] at hk;cases hk
   .obtain ⟨hun,o,ho,hed⟩:=Jm hok inv.size hi
    have hin:i<sh.length:=by
     rcases Nat.lt_or_ge i sh.length with hlt | hge
     .exact hlt
     .have:=Hn hok inv.size inv.closed hge ho hed j0 (by omega)
      rw [hu0] at this;cases this
    have hx:sh[i]? = some sh[i]:=List.getElem?_eq_getElem hin
    obtain ⟨F,hF,hst⟩:=hat i o _ ho hx
    rw [Nat.zero_add] at hst
    have hil:i<listed.size:=by rw [inv.size];exact (List.getElem?_eq_some_iff.1 ho).1
    have hno:=(BQ hok ho).2.1 _ hx
    simp only [Dt,Bool.and_eq_true] at hno
    obtain ⟨hs1,hs2⟩:=hst g w' (Lc a g sh[i].env) inv.ext (λx hx' j hj y G hy hG=>by
      have:x=sh[i]:=Option.some.inj (hx'.symm.trans hx)
      subst this
      exact inv.facts j y G hy hG (CO hok inv.closed i _ o hx ho hed j hj))
     (Mr λp hp=>by
      obtain ⟨h1,h2,o',ho',hd'⟩:=EL hok hx ho hp
      cases hfd:sh[i].env.find? (λq=>q.1==p.1) with
      | none=>have:=List.find?_eq_none.1 hfd p hp;simp at this
      | some q=>
       have hq:=List.mem_of_find?_eq_some hfd
       have hqp:q.1=p.1:=by simpa using List.find?_some hfd
       obtain ⟨_,h4,o2,ho2,hd2⟩:=EL hok hx ho hq
       rw [hqp] at hd2
       have:=Ee hok h4 h2 ho2 ho' hd2 hd'
       simp only [Lc,hfd,this])
     (λt ht=>by
      have:sh[i].env.find? (λq=>q.1==t)=none:=List.find?_eq_none.2 λp hp=>by simpa using ht p hp
      simp only [Lc,this])
     (λ_=>rfl) (λ_=>rfl)
    have hwant:=wanted_of hok inv ho hx hed
    have hfs:∀v w2 b,(a'.put o.dst v)=b->GS.Le w' w2->F (sh[i].deps.map (upd g i v)) w2->wpAny P .any L.toArray Q f (listed.setIfInBounds i true) b w2.w:=λv w2 b hb he hf'=>by
     subst hb
     refine ih _ (upd g i v) _ _ ?_ (step_inv hok hd hstab inv ho hx hF hun hed he hf')
     have:=IK hil hun
     omega
    unfold wpOp
    have ho2:L.toArray[i]? = some o:=by simpa using ho
    rw [ho2]
    show if Region.wanted o (yielded L.toArray a'.tmps)=true then _ else _
    rw [hwant]
    split
    .rename_i hw
     exact .inl (opStep_wp hno.2 (eval_operands hok inv ho hx hun hed) (hs1 hw) λv w2 ⟨he,hf'⟩=>hfs v w2 _ rfl he hf')
    .rename_i hw
     exact hfs undef w' _ rfl (GS.Le.refl _) (hs2 (by simpa using hw))
theorem wp_region_ext{L:List Oper}{Q:Exit->Act->World->Prop}{a:Act}{w:GS}{C:Prop}(hm:wpAny P .any L.toArray Q L.toArray.size (Array.replicate L.toArray.size false) a w.dr.w->C)(sh:List Shape)(Rs:List Fact)(hok:CG L sh=true)(hd:EO L sh.length a.tmps.size=true)
  (hstab:∀F∈Rs,∀vs w1 w2,GS.Le w1 w2->F vs w1->F vs w2) (hstep:StepsAt P sh Rs a w.dr 0 L sh Rs)
  (hend:∀g w',GS.Le w.dr w'->(∀(j:Nat) (y:Shape) (F:Fact),sh[j]? = some y->Rs[j]? = some F->F (y.deps.map g) w')->wpList P L.toArray Q (L.drop sh.length) (CM g (L.take sh.length) 0 a) w'.w) :
  C:=by
 refine hm ?_
 have hfz:Gj (Array.replicate L.toArray.size false)=L.toArray.size:=by simp [Gj,List.filter_replicate]
 refine head_run hok hd hstab hstep hend _ _ (λ_=>undef) a w.dr hfz ?_
 have hz:∀j,(Array.replicate L.toArray.size false).getD j false=false:=λj=>by
  rcases Nat.lt_or_ge j L.length with h | h
  .simp [h]
  .simp [h]
 exact ⟨by simp,(λj o _ h=>by rw [hz] at h;cases h),λt _=>hz t,rfl,rfl,(λj o d _ _ h=>by rw [hz] at h;cases h),λt _=>rfl,(λj y F _ _ h=>by rw [hz] at h;cases h),GS.Le.refl _⟩
end
abbrev VFact:=Value->GS->Prop
def OpsKnown(Fs:List VFact)(ev:Operand->Value)(w:GS):List (Nat×Nat)->Prop
 | []=>True
 | (t,j)::r=>(∀F,Fs[j]? = some F->F (ev (.tmp t)) w)/\OpsKnown Fs ev w r
def UStep(P:Program)(Fs:List VFact)(a:Act)(w0:GS)(o:Oper)(env:List (Nat×Nat))(F:VFact):Prop:=
 ∀(w:GS) (ev:Operand->Value),GS.Le w0 w->OpsKnown Fs ev w env ->
  (∀t,(∀p∈env,p.1≠t)->ev (.tmp t)=a.tmps.getD t undef)->(∀v,ev (.const v)=v)->(∀f,ev (.func f) = .func (.func f) #[] #[]) ->
  match o.guard with
  | none=>OpStep P o ev w λv w'=>GS.Le w w'/\F v w'
  | some (j,b)=>∀gv,(∀G,Fs[j]? = some G->G gv w)->(gv = .bool b->OpStep P o ev w λv w'=>GS.Le w w'/\F v w')/\(gv ≠ .bool b->F undef w)
def USteps(P:Program)(Fs:List VFact)(a:Act)(w0:GS):List Oper->List (List (Nat×Nat))->List VFact->Prop
 | o::L,x::S,F::T=>UStep P Fs a w0 o x F/\USteps P Fs a w0 L S T
 | _,[],[]=>True
 | _,_,_=>False
theorem USteps.cons{P:Program}{Fs:List VFact}{a:Act}{w0:GS}{o:Oper}{L:List Oper}{x:List (Nat×Nat)}{S:List (List (Nat×Nat))}{F:VFact}{T:List VFact}(h:UStep P Fs a w0 o x F)(hs:USteps P Fs a w0 L S T) :
  USteps P Fs a w0 (o::L) (x::S) (F::T):=⟨h,hs⟩
theorem USteps.nil{P:Program}{Fs:List VFact}{a:Act}{w0:GS}{L:List Oper}:USteps P Fs a w0 L [] []:=by cases L<;>trivial
def unF(F:VFact):Fact:=λvs w=>match vs with | [v]=>F v w | _=>False
theorem usteps_steps{P:Program}{a:Act}{w0:GS}{Fs:List VFact}{sh:List Shape}{L0:List Oper}(hok:CG L0 sh=true)(hsh:∀(k:Nat) (x:Shape),sh[k]? = some x->x.deps=[k]) :
  ∀{L:List Oper} {es:List (List (Nat×Nat))} {bs:List (List Nat)} {T:List VFact} {i:Nat},(∀k,L[k]? = L0[i+k]?)->(∀k,(DU i es bs)[k]? = sh[i+k]?)->es.length=bs.length->USteps P Fs a w0 L es T ->
   StepsAt P sh (Fs.map unF) a w0 i L (DU i es bs) (T.map unF)
 | L,[],[],[],i,_,_,_,_=>by cases L<;>exact trivial
 | L,[],[],_::_,i,_,_,_,h=>by cases L<;>exact h.elim
 | L,[],_::_,T,i,_,_,hl,h=>by simp at hl
 | L,_::_,[],T,i,_,_,hl,h=>by simp at hl
 | [],_::_,_::_,T,i,_,_,_,h=>by cases T<;>exact h.elim
 | _::_,_::_,_::_,[],i,_,_,_,h=>h.elim
 | o::L,e::es,b::bs,F::T,i,hL,hS,hl,h=>by
  obtain ⟨h1,h2⟩:=h
  refine ⟨?_,usteps_steps hok hsh (i:=i+1) (λk=>by
   have:=hL (k+1)
   rw [show i+1+k=i+(k+1) by omega,<-this];rfl) (λk=>by
   have:=hS (k+1)
   rw [show i+1+k=i+(k+1) by omega,<-this];rfl) (by simpa using hl) h2⟩
  intro g w ev hE hk henv hev hc hf
  have ho:L0[i]? = some o:=by have:=hL 0;simpa using this.symm
  have hx:sh[i]? = some ⟨e,b,[i]⟩:=by have:=hS 0;simpa [DU] using this.symm
  have hknown:∀j,j∈b->∀G,Fs[j]? = some G->G (g j) w:=λj hj G hG=>by
   have hjl:∃y,sh[j]? = some y:=by
    cases hy:sh[j]? with
    | some y=>exact ⟨y,rfl⟩
    | none=>
     exfalso
     have hb:=hj
     have hh:=(BQ hok ho).2.1 _ hx
     simp only [Dt,Bool.and_eq_true] at hh
     have h3:=List.all_eq_true.1 hh.1.1.1.1.1 j hb
     obtain ⟨e',he',he2⟩:=List.any_eq_true.1 h3
     have hlt:=(BQ hok ho).1 e' he'
     simp only [Bool.or_eq_true,beq_iff_eq] at he2
     have hil:=Db hx
     rw [List.getElem?_eq_none_iff] at hy
     rcases he2 with rfl | he2
     .omega
     .
      have key:∀(n:Nat) (y:Shape) (oy:Oper),sh[n]? = some y->L0[n]? = some oy->∀m∈y.bef,m<n:=by
       intro n
       induction n using Nat.strongRecOn with
       | _ n ih=>
        intro y oy hy hoy m hm
        have hh':=(BQ hok hoy).2.1 y hy
        simp only [Dt,Bool.and_eq_true] at hh'
        have h4:=List.all_eq_true.1 hh'.1.1.1.1.1 m hm
        obtain ⟨e2,he2,he3⟩:=List.any_eq_true.1 h4
        have hlt2:=(BQ hok hoy).1 e2 he2
        simp only [Bool.or_eq_true,beq_iff_eq] at he3
        rcases he3 with rfl | he3
        .exact hlt2
        .cases hy2:sh[e2]? with
         | none=>simp [Cn,hy2] at he3
         | some y2=>
          have hel:e2<L0.length:=Nat.lt_of_lt_of_le (Db hy2) (Cp hok)
          have:=ih e2 hlt2 y2 _ hy2 (List.getElem?_eq_getElem hel) m (by simpa [Cn,hy2] using he3)
          omega
      have:=key i _ o hx ho j hj
      omega
   obtain ⟨y,hy⟩:=hjl
   have:=hk _ hx j hj y (unF G) hy (by rw [List.getElem?_map,hG];rfl)
   rw [hsh j y hy] at this
   exact this
  have hops:OpsKnown Fs ev w e:=by
   have hsub:∀p∈e,p.2∈b:=λp hp=>(EL hok hx ho hp).1
   have henv':Ox ev g e:=henv
   clear hx hev h1 henv hS hl
   induction e with
   | nil=>trivial
   | cons p e ih=>
    obtain ⟨t,j⟩:=p
    obtain ⟨q1,q2⟩:=henv'
    exact ⟨λG hG=>by rw [q1];exact hknown j (hsub (t,j) (by simp)) G hG,ih (λp hp=>hsub p (by simp [hp])) q2⟩
  have:=h1 w ev hE hops hev hc hf
  have hmap:∀v,unF F ([i].map (upd g i v))=F v:=λv=>by funext w;simp [unF,upd]
  cases hg:o.guard with
  | none=>
   rw [hg] at this
   refine ⟨λ_=>?_,λhw=>by simp [Dv,hg] at hw⟩
   simp only [hmap]
   exact this
  | some jb=>
   obtain ⟨j,c⟩:=jb
   rw [hg] at this
   have hjb:j∈b:=by
    have hh:=(BQ hok ho).2.1 _ hx
    simp only [Dt,Bool.and_eq_true] at hh
    have h3:=hh.1.2
    rw [hg] at h3
    simp only [Bool.and_eq_true] at h3
    simpa using h3.1.1
   obtain ⟨t1,t2⟩:=this (g j) (λG hG=>hknown j hjb G hG)
   refine ⟨λhw=>?_,λhw=>?_⟩
   .simp only [hmap]
    refine t1 ?_
    simp only [Dv,hg] at hw
    split at hw
    .rename_i c' hc';rw [hc'];congr 1;simpa using hw
    .cases hw
   .simp only [hmap]
    refine t2 λe'=>?_
    simp [Dv,hg,e'] at hw
theorem wp_region_u{P:Program}{L:List Oper}{Q:Exit->Act->World->Prop}{a:Act}{w:GS}{C:Prop}(hm:wpAny P .any L.toArray Q L.toArray.size (Array.replicate L.toArray.size false) a w.dr.w->C)(es:List (List (Nat×Nat)))(bs:List (List Nat))(Fs:List VFact)
  (hlen:(es.length==bs.length&&es.length==Fs.length)=true) (hok:CG L (DU 0 es bs)=true) (hd:EO L es.length a.tmps.size=true)
  (hstab:∀F∈Fs,∀v w1 w2,GS.Le w1 w2->F v w1->F v w2) (hstep:USteps P Fs a w.dr L es Fs)
  (hend:∀(g:Nat->Value) (w':GS),GS.Le w.dr w'->(∀(j:Nat) (F:VFact),Fs[j]? = some F->F (g j) w')->wpList P L.toArray Q (L.drop es.length) (CM g (L.take es.length) 0 a) w'.w) :
  C:=by
 simp only [Bool.and_eq_true,beq_iff_eq] at hlen
 have hshl:∀(es:List (List (Nat×Nat))) (bs:List (List Nat)) (i:Nat),es.length=bs.length->(DU i es bs).length=es.length:=by
  intro es
  induction es with
  | nil=>intro bs i _;cases bs<;>rfl
  | cons e es ih=>
   intro bs i h
   cases bs with
   | nil=>simp at h
   | cons b bs=>simp [DU,ih bs (i+1) (by simpa using h)]
 have hl:=hshl es bs 0 hlen.1
 refine wp_region_ext hm (DU 0 es bs) (Fs.map unF) hok (by rw [hl];exact hd) ?_ ?_ ?_
 .intro F hF vs w1 w2 he h
  obtain ⟨G,hG,rfl⟩:=List.mem_map.1 hF
  unfold unF at *
  split at h
  .rename_i v;exact hstab G hG v w1 w2 he h
  .exact h.elim
 .exact usteps_steps hok (λk x hx=>by have:=(Ho hx).1;rwa [Nat.zero_add] at this) (λk=>by rw [Nat.zero_add]) (λk=>by rw [Nat.zero_add]) hlen.1 hstep
 .intro g w' hE hf
  rw [hl]
  refine hend g w' hE λj F hF=>?_
  have hjl:j<(DU 0 es bs).length:=by
   rw [hl]
   have:=(List.getElem?_eq_some_iff.1 hF).1
   omega
  have hy:(DU 0 es bs)[j]? = some (DU 0 es bs)[j]:=List.getElem?_eq_getElem hjl
  have:=hf j _ (unF F) hy (by rw [List.getElem?_map,hF];rfl)
  rw [(Ho hy).1] at this
  simpa [unF] using this
def Stab(F:VFact):Prop:=∀v w1 w2,GS.Le w1 w2->F v w1->F v w2
def StabAll:List VFact->Prop
 | []=>True
 | F::r=>Stab F/\StabAll r
theorem StabAll.cons{F:VFact}{r:List VFact}(h:Stab F)(hs:StabAll r):StabAll (F::r):=⟨h,hs⟩
theorem StabAll.nil:StabAll []:=trivial
theorem StabAll.mem:∀{Fs:List VFact},StabAll Fs->∀F∈Fs,Stab F
 | [],_,F,h=>by cases h
 | G::r,h,F,hF=>by
  rcases List.mem_cons.1 hF with rfl | hF
  .exact h.1
  .exact StabAll.mem h.2 F hF
theorem wp_region_v{P:Program}{L:List Oper}{Q:Exit->Act->World->Prop}{a:Act}{w:GS}{C:Prop}(hm:wpAny P .any L.toArray Q L.toArray.size (Array.replicate L.toArray.size false) a w.dr.w->C)(es:List (List (Nat×Nat)))(bs:List (List Nat))(Fs:List VFact)
  (hlen:(es.length==bs.length&&es.length==Fs.length)=true) (hok:CG L (DU 0 es bs)=true) (hd:EO L es.length a.tmps.size=true) (stab:StabAll Fs) (steps:USteps P Fs a w.dr L es Fs)
  (fin:∀(g:Nat->Value) (w':GS),GS.Le w.dr w'->(∀(j:Nat) (F:VFact),Fs[j]? = some F->F (g j) w')->wpList P L.toArray Q (L.drop es.length) (CM g (L.take es.length) 0 a) w'.w) :
  C:=
 wp_region_u hm es bs Fs hlen hok hd (λF hF=>stab.mem F hF) steps fin
end RegG
theorem MZ(s:GS):GS.Le s s.dr:=GS.Le.heap ((Ext.refl _).drew) rfl
structure OD where
 rel:GS->Value->Prop
 blk:GS->Value->Nat->Prop
 lt:∀{s:GS} {v:Value} {b:Nat},rel s v->blk s v b->b<s.w.heap.size
 keep:∀{s s':GS} {v:Value},rel s v->GS.Chg s s'->(∀b,blk s v b->s'.w.heap[b]? = s.w.heap[b]? /\ ∀k,s'.S b k↔s.S b k)->rel s' v/\∀b,blk s' v b->blk s v b
inductive AV
 | d (x:D)
 | ptr (id off:Nat)
 | own (id:Nat)
 | fn (f:FuncId) (caps:List Nat)
instance:Inhabited AV:=⟨.d Dp⟩
inductive Ow
 | dead
 | var (T:TypeId) (cells:List AV)
 | row (T:TypeId) (sz:Nat) (rows:List (List D))
 | obj (O:OD)
 | pin (l:List (Value×AV))
instance:Inhabited Ow:=⟨.dead⟩
structure AS where
 fr:List (Nat×AV)
 hp:List Ow
def CA:List (Nat×AV)->Nat->Option AV
 | [],_=>none
 | (a,v)::r,t=>bif Nat.beq a t then some v else CA r t
theorem Me:∀{l:List (Nat×AV)} {t:Nat} {av:AV},CA l t=some av->(t,av)∈l
 | [],_,_,h=>by cases h
 | (a,v)::r,t,av,h=>by
  unfold CA at h
  cases hb:Nat.beq a t with
  | true=>
   rw [hb] at h
   have e1:a=t:=Nat.eq_of_beq_eq_true hb
   have e2:v=av:=Option.some.inj h
   subst e1;subst e2
   exact List.mem_cons_self
  | false=>
   rw [hb] at h
   exact List.mem_cons_of_mem _ (Me h)
def DZ:Value->Option Nat
 | .pointer (some a)=>some a.block
 | .slice (some a) _ _=>some a.block
 | _=>none
def AVr(m:Nat)(ρ:Nat->Value)(s:GS):AV->Value->Prop
 | .d x,v=>x.rel s v
 | .ptr id off,v=>id<m/\∃b,ρ id = .pointer (some ⟨b,0,none⟩)/\v = .pointer (some ⟨b,off,none⟩)
 | .own id,v=>id<m/\v=ρ id
 | .fn f caps,v=>(∀i∈caps,i<m)/\v = .func (.func f) #[] (caps.map ρ).toArray
theorem AVr.chg{m:Nat}{ρ:Nat->Value}{s s':GS}{av:AV}{v:Value}(h:AVr m ρ s av v)(hc:GS.Chg s s'):AVr m ρ s' av v:=by
 cases av with
 | d x=>exact x.st h hc
 | ptr id off=>exact h
 | own id=>exact h
 | fn f caps=>exact h
theorem AVr.mono{m m':Nat}{ρ ρ':Nat->Value}{s:GS}{av:AV}{v:Value}(h:AVr m ρ s av v)(hm:m<=m')(hρ:∀i,i<m->ρ' i=ρ i):AVr m' ρ' s av v:=by
 cases av with
 | d x=>exact h
 | ptr id off=>
  obtain ⟨h1,b,h2,h3⟩:=h
  exact ⟨Nat.lt_of_lt_of_le h1 hm,b,(hρ id h1).trans h2,h3⟩
 | own id=>exact ⟨Nat.lt_of_lt_of_le h.1 hm,h.2.trans (hρ id h.1).symm⟩
 | fn f caps=>exact ⟨λi hi=>Nat.lt_of_lt_of_le (h.1 i hi) hm,by rw [h.2,List.map_congr_left λi hi=>(hρ i (h.1 i hi)).symm]⟩
def OwR(base m:Nat)(ρ:Nat->Value)(s:GS)(i:Nat):Ow->Prop
 | .dead=>True
 | .var T cells=>∃(b:Nat) (cs:Array Value),ρ i = .pointer (some ⟨b,0,none⟩)/\base<=b/\s.w.heap[b]? = some (.cells cs T (0,0))/\cs.size=cells.length/\T≠108/\(∀k,¬s.S b k)/\∀(k:Nat) av,cells[k]? = some av->∃u:Value,cs[k]? = some u/\u.oneCell'=true/\AVr m ρ s av u
 | .row T sz rows=>∃xs:List Value,s.w.ownsRow base T sz (ρ i) rows.length xs/\T≠108/\0<sz/\(∀b,DZ (ρ i)=some b->∀k,s.S b k↔k<rows.length*sz)/\∀k,k<rows.length->(rows.getD k []).length=sz/\∀j,j<sz->∃u,xs[k*sz+j]? = some u/\u.oneCell'=true/\(Cj (rows.getD k []) j).rel s u
 | .obj O=>O.rel s (ρ i)
 | .pin l=>∀p∈l,AVr m ρ s p.2 p.1
def OwB(s:GS)(v:Value):Ow->Nat->Prop
 | .dead,_=>False
 | .var _ _,b=>DZ v=some b
 | .row _ _ _,b=>DZ v=some b
 | .obj O,b=>O.blk s v b
 | .pin _,_=>False
theorem OwR.blk_lt0{base m:Nat}{ρ:Nat->Value}{s:GS}{i:Nat}{o:Ow}(h:OwR base m ρ s i o){b:Nat}(hb:OwB s (ρ i) o b):b<s.w.heap.size:=by
 cases o with
 | dead=>exact hb.elim
 | pin l=>exact hb.elim
 | obj O=>exact O.lt h hb
 | var T cells=>
  obtain ⟨g,cs,h1,h2,h3,_⟩:=h
  replace hb:DZ (ρ i)=some b:=hb
  rw [h1] at hb
  cases hb
  exact AU h3
 | row T sz rows=>
  obtain ⟨xs,⟨h1,h2⟩,_⟩:=h
  replace hb:DZ (ρ i)=some b:=hb
  rcases h2 with ⟨e1,_⟩ | ⟨g,cap,cur,e1,e2,e3,_⟩
  .rw [e1] at hb;cases hb
  .rw [e1] at hb;cases hb;exact AU e3
theorem OwB.keep{base m:Nat}{ρ:Nat->Value}{s s':GS}{i:Nat}{o:Ow}(h:OwR base m ρ s i o)(hc:GS.Chg s s')(hb:∀b,OwB s (ρ i) o b->s'.w.heap[b]? = s.w.heap[b]? /\ ∀k,s'.S b k↔s.S b k){b:Nat}(hx:OwB s' (ρ i) o b):OwB s (ρ i) o b:=by
 cases o with
 | obj O=>exact (O.keep h hc hb).2 b hx
 | _=>exact hx
theorem OwB.le{base m:Nat}{ρ:Nat->Value}{s s':GS}{i:Nat}{o:Ow}(h:OwR base m ρ s i o)(hl:GS.Le s s'){b:Nat}(hx:OwB s' (ρ i) o b):OwB s (ρ i) o b:=
 OwB.keep h hl.chg (λc hc=>have hlt:=h.blk_lt0 hc;⟨hl.ext.block hlt,λk=>⟨hl.old c k hlt,hl.up c k⟩⟩) hx
theorem OwR.le{base m:Nat}{ρ:Nat->Value}{s s':GS}{i:Nat}{o:Ow}(h:OwR base m ρ s i o)(hl:GS.Le s s'):OwR base m ρ s' i o:=by
 cases o with
 | dead=>trivial
 | var T cells=>
  obtain ⟨b,cs,h1,h2,h3,h4,h5,h6,h7⟩:=h
  refine ⟨b,cs,h1,h2,(hl.ext.block (AU h3)).trans h3,h4,h5,λk hk=>h6 k (hl.old b k (AU h3) hk),λk av hk=>?_⟩
  obtain ⟨u,h8,h9,h10⟩:=h7 k av hk
  exact ⟨u,h8,h9,h10.chg hl.chg⟩
 | row T sz rows=>
  obtain ⟨xs,⟨h1,h2⟩,h3,h4,h5,h6⟩:=h
  refine ⟨xs,⟨h1,?_⟩,h3,h4,λb hb k=>?_,λk hk=>⟨(h6 k hk).1,λj hj=>?_⟩⟩
  .rcases h2 with h2 | ⟨g,cap,cur,e1,e2,e3,e4⟩
   .exact .inl h2
   .exact .inr ⟨g,cap,cur,e1,e2,(hl.ext.block (AU e3)).trans e3,e4⟩
  .have hlt:b<s.w.heap.size:=by
    rcases h2 with ⟨e1,_⟩ | ⟨g,cap,cur,e1,e2,e3,e4⟩
    .rw [e1] at hb;cases hb
    .rw [e1] at hb;cases hb;exact AU e3
   exact ⟨λhk=>(h5 b hb k).1 (hl.old b k hlt hk),λhk=>hl.up b k ((h5 b hb k).2 hk)⟩
  .obtain ⟨u,h8,h9,h10⟩:=(h6 k hk).2 j hj
   exact ⟨u,h8,h9,(Cj _ j).st h10 hl.chg⟩
 | obj O=>exact (O.keep h hl.chg λc hc=>have hlt:=O.lt h hc;⟨hl.ext.block hlt,λk=>⟨hl.old c k hlt,hl.up c k⟩⟩).1
 | pin l=>exact λp hp=>(h p hp).chg hl.chg
def HpOk(base:Nat)(ρ:Nat->Value)(s:GS)(hp:List Ow):Prop:=∀i o,hp[i]? = some o->OwR base hp.length ρ s i o
theorem HpOk.le{base:Nat}{ρ:Nat->Value}{s s':GS}{hp:List Ow}(h:HpOk base ρ s hp)(hl:GS.Le s s'):HpOk base ρ s' hp:=λi o hi=>(h i o hi).le hl
def Ew(hp:List Ow):AV->Option D
 | .d x=>some x
 | .own id=>match hp[id]? with
  | some (.row T sz rows)=>some (slD T sz rows)
  | _=>none
 | .ptr _ _=>none
 | .fn _ _=>none
theorem CQ{base:Nat}{ρ:Nat->Value}{s:GS}{hp:List Ow}{av:AV}{v:Value}{x:D}(hh:HpOk base ρ s hp)(h:AVr hp.length ρ s av v)(hx:Ew hp av=some x):x.rel s v:=by
 cases av with
 | d y=>cases hx;exact h
 | ptr id off=>cases hx
 | fn f caps=>cases hx
 | own id=>
  obtain rfl:v=ρ id:=h.2
  replace hx:(match hp[id]? with
   | some (.row T sz rows)=>some (slD T sz rows)
   | _=>none)=some x:=hx
  split at hx
  .rename_i T sz rows he
   cases hx
   obtain ⟨xs,⟨h1,h2⟩,h3,h4,h5,h6⟩:=hh id _ he
   rcases h2 with ⟨e1,e2⟩ | ⟨g,cap,cur,e1,e2,e3,e4,e5,e6,e7⟩
   .rw [e1]
    exact ⟨none,0,by rw [e2],by omega,by omega,λh0=>by omega⟩
   .rw [e1]
    refine ⟨_,cap,rfl,e4,by simpa [maxLen] using e5,λh0=>⟨g,0,rfl,λk hk=>⟨(h6 k hk).1,cur,(0,0),e3,λj hj=>?_⟩⟩⟩
    rw [(h6 k hk).1] at hj
    obtain ⟨u,h8,h9,h10⟩:=(h6 k hk).2 j hj
    have hlt:k*sz+j<rows.length*sz:=by
     have:(k+1)*sz<=rows.length*sz:=Nat.mul_le_mul_right sz hk
     rw [Nat.succ_mul] at this
     omega
    refine ⟨by rw [Nat.zero_add];exact (h5 g (by rw [e1];rfl) _).2 hlt,u,?_,h9,h10⟩
    rw [Nat.zero_add,<-h8,<-e7,List.getElem?_take,if_pos hlt]
    simp
  .cases hx
def AS.arg(σ:AS):Operand->AV
 | .tmp t=>(CA σ.fr t).getD (.d Dp)
 | .const v=>.d (ex v)
 | .global g=>.d (ex (.pointer (some ⟨g,0,none⟩)))
 | .func f=>.d (ex (.func (.func f) #[] #[]))
def AS.put(σ:AS)(dst:Option Tmp)(r:AV):AS:=
 match dst with
 | some d=>{ σ with fr:=(d,r)::σ.fr }
 | none=>σ
structure GS.LeX(mine:Nat->Prop)(s s':GS):Prop where
 os:s'.w.os=s.w.os
 tape:s'.w.tape=s.w.tape
 output:s'.w.output=s.w.output
 block:∀k,k<s.w.heap.size->¬mine k->s'.w.heap[k]? = s.w.heap[k]?
 chg:GS.Chg s s'
 old:∀b k,b<s.w.heap.size->¬mine b->s'.S b k->s.S b k
 tag:∀b,b<s.w.heap.size->s'.tag b=s.tag b
 ok:s.Ok->s'.Ok
theorem GS.LeX.size{mine:Nat->Prop}{s s':GS}(h:GS.LeX mine s s'):s.w.heap.size<=s'.w.heap.size:=h.chg.size
theorem GS.LeX.refl(mine:Nat->Prop)(s:GS):GS.LeX mine s s:=⟨rfl,rfl,rfl,λ_ _ _=>rfl,GS.Chg.refl s,λ_ _ _ _ h=>h,λ_ _=>rfl,λh=>h⟩
theorem GS.LeX.trans{mine:Nat->Prop}{a b c:GS}(h:GS.LeX mine a b)(k:GS.Le b c):GS.LeX mine a c:=
 ⟨k.ext.os.trans h.os,k.ext.tape.trans h.tape,k.ext.output.trans h.output,λx hx hm=>(k.ext.block (Nat.lt_of_lt_of_le hx h.size)).trans (h.block x hx hm),h.chg.trans k.chg,λx j hx hm h'=>h.old x j hx hm (k.old x j (Nat.lt_of_lt_of_le hx h.size) h'),λx hx=>(k.tag x (Nat.lt_of_lt_of_le hx h.size)).trans (h.tag x hx),λh'=>k.ok (h.ok h')⟩
theorem GS.LeX.le{s s':GS}{mine:Nat->Prop}(hm:∀b,¬mine b)(h:GS.LeX mine s s'):GS.Le s s':=
 ⟨⟨h.os,h.tape,h.output,h.size,λk hk=>h.block k hk (hm k)⟩,h.chg.up,λb k hb=>h.old b k hb (hm b),h.tag,h.ok⟩
structure An where
 g:GS
 mine:Nat->Prop
theorem GS.LeX.turn{s0:An}{s s':GS}(h:GS.LeX s0.mine s0.g s){g:Nat}(hg:s0.mine g\/s0.g.w.heap.size<=g)(h1:s'.w.os=s.w.os)(h2:s'.w.tape=s.w.tape)(h3:s'.w.output=s.w.output)(h4:∀b,b<s.w.heap.size->b≠g->s'.w.heap[b]? = s.w.heap[b]? /\ ∀k,s'.S b k->s.S b k)(hc:GS.Chg s s')(ht:∀b,b<s.w.heap.size->s'.tag b=s.tag b)(hok:s.Ok->s'.Ok):GS.LeX s0.mine s0.g s':=
 ⟨h1.trans h.os,h2.trans h.tape,h3.trans h.output,λk hk hm=>(h4 k (Nat.lt_of_lt_of_le hk h.size) λe=>by subst e;exact hg.elim hm (λh'=>absurd hk (by omega))).1.trans (h.block k hk hm),h.chg.trans hc,λb k hb hm hs=>h.old b k hb hm ((h4 b (Nat.lt_of_lt_of_le hb h.size) λe=>by subst e;exact hg.elim hm (λh'=>absurd hb (by omega))).2 k hs),λb hb=>(ht b (Nat.lt_of_lt_of_le hb h.size)).trans (h.tag b hb),λh'=>hok (h.ok h')⟩
structure StI(s0:An)(n:Nat)(σ:AS)(a:Act)(s:GS)(ρ:Nat->Value):Prop where
 le:GS.LeX s0.mine s0.g s
 ok:s.Ok
 fr:∀t av,CA σ.fr t=some av->AVr σ.hp.length ρ s av (a.tmps.getD t undef)
 sz:a.tmps.size=n
 df:a.defers=[]
 hp:HpOk 0 ρ s σ.hp
 sep:∀i j o o',i≠j->σ.hp[i]? = some o->σ.hp[j]? = some o'->∀b,OwB s (ρ i) o b->¬OwB s (ρ j) o' b
 own:∀i o b,σ.hp[i]? = some o->OwB s (ρ i) o b->s0.mine b\/s0.g.w.heap.size<=b
def St(s0:An)(n:Nat)(σ:AS)(a:Act)(w:World):Prop:=∃(s:GS) (ρ:Nat->Value),s.w=w/\StI s0 n σ a s ρ
theorem StI.arg{s0:An}{n:Nat}{σ:AS}{a:Act}{s:GS}{ρ:Nat->Value}(h:StI s0 n σ a s ρ)(x:Operand):AVr σ.hp.length ρ s (σ.arg x) (a.eval x):=by
 cases x with
 | tmp t=>
  show AVr σ.hp.length ρ s ((CA σ.fr t).getD (.d Dp)) (a.tmps.getD t undef)
  cases hl:CA σ.fr t with
  | none=>exact trivial
  | some av=>exact h.fr t av hl
 | const v=>exact rfl
 | global g=>exact rfl
 | func f=>exact rfl
theorem DL(t u:Nat)(av:AV)(l:List (Nat×AV)):CA ((t,av)::l) u=if t=u then some av else CA l u:=by
 show (bif Nat.beq t u then some av else CA l u)=_
 cases hb:Nat.beq t u with
 | true=>rw [if_pos (Nat.eq_of_beq_eq_true hb)];rfl
 | false=>rw [if_neg (Nat.ne_of_beq_eq_false hb)];rfl
theorem StI.put{s0:An}{n:Nat}{σ:AS}{a:Act}{s s':GS}{ρ:Nat->Value}(h:StI s0 n σ a s ρ)(hl:GS.Le s s'){dst:Option Tmp}(hd:∀d,dst=some d->d<n){v:Value}{r:AV}(hr:AVr σ.hp.length ρ s' r v):StI s0 n (σ.put dst r) (a.put dst v) s' ρ:=by
 refine ⟨h.le.trans hl,hl.ok h.ok,λt av ht=>?_,?_,?_,?_,?_,?_⟩
 .cases dst with
  | none=>exact (h.fr t av ht).chg hl.chg
  | some d=>
   simp only [AS.put,DL] at ht
   simp only [Act.put]
   by_cases hdt:d=t
   .rw [if_pos hdt] at ht
    cases ht
    subst hdt
    have:d<a.tmps.size:=by rw [h.sz];exact hd d rfl
    simp [this]
    exact hr
   .rw [if_neg hdt] at ht
    have:=(h.fr t av ht).chg hl.chg
    rw [Array.getD_eq_getD_getElem?] at this ⊢
    rwa [Array.getElem?_setIfInBounds_ne hdt]
 .unfold Act.put;split<;>simp [h.sz]
 .unfold Act.put;split<;>simp [h.df]
 .cases dst<;>exact h.hp.le hl
 .have key:∀i j o o',i≠j->σ.hp[i]? = some o->σ.hp[j]? = some o'->∀b,OwB s' (ρ i) o b->¬OwB s' (ρ j) o' b:=λi j o o' hij hi hj b hb hb'=>h.sep i j o o' hij hi hj b (OwB.le (h.hp i o hi) hl hb) (OwB.le (h.hp j o' hj) hl hb')
  cases dst<;>exact key
 .have key:∀i o b,σ.hp[i]? = some o->OwB s' (ρ i) o b->s0.mine b\/s0.g.w.heap.size<=b:=λi o b hi hb=>h.own i o b hi (OwB.le (h.hp i o hi) hl hb)
  cases dst<;>exact key
structure Quiet(P:Program)(hp:List Ow)(o:Oper)(arg:Operand->AV)(r:AV):Prop where
 run:∀(base:Nat) (s:GS) (ρ:Nat->Value) (ev:Operand->Value),s.Ok->base<=s.w.heap.size->HpOk base ρ s hp->(∀x,x∈o.op.operands->AVr hp.length ρ s (arg x) (ev x)) ->
  RegG.OpStep P o ev s λv s'=>GS.Le s s'/\AVr hp.length ρ s' r v
theorem BO{P:Program}{o:Oper}{ev:Operand->Value}{s:GS}{R:Value->GS->Prop}{v:Value}(h:(execOp ev o).run P s.w = .ok (.value v) s.w)(hR:R v s):RegG.OpStep P o ev s R:=by
 unfold RegG.OpStep
 rw [h]
 exact ⟨s,rfl,hR⟩
theorem Us{P:Program}{o:Oper}{ev:Operand->Value}{s:GS}{R:Value->GS->Prop}{v:Value}{w':World}(h:(execOp ev o).run P s.w = .ok (.value v) w')(s':GS)(hw:s'.w=w')(hR:R v s'):RegG.OpStep P o ev s R:=by
 unfold RegG.OpStep
 rw [h]
 exact ⟨s',hw,hR⟩
structure Tab(P:Program)(t:TypeId)(d:TypeDesc)(n bytes:Nat)(z:Value):Prop where
 und:P.underlying t=some d
 inf:(P.info? t).map (λi=>(i.zero,i.size,i.bytes))=some (some z,n,bytes)
theorem Tab.info{P:Program}{t:TypeId}{d:TypeDesc}{n bytes:Nat}{z:Value}(h:Tab P t d n bytes z):∃i,P.info? t=some i/\i.zero=some z/\i.size=n/\i.bytes=bytes:=by
 have:=h.inf
 cases hi:P.info? t with
 | none=>rw [hi] at this;cases this
 | some i=>
  rw [hi] at this
  simp only [Option.map_some,Option.some.injEq,Prod.mk.injEq] at this
  exact ⟨i,rfl,this.1,this.2.1,this.2.2⟩
theorem Tab.run_size{P:Program}{t:TypeId}{d:TypeDesc}{n bytes:Nat}{z:Value}(h:Tab P t d n bytes z)(w:World):(sizeOf t).run P w = .ok n w:=by
 obtain ⟨i,h1,_,h2,_⟩:=h.info
 simp [sizeOf,typeInfo,h1,h2]
theorem Tab.run_zero{P:Program}{t:TypeId}{d:TypeDesc}{n bytes:Nat}{z:Value}(h:Tab P t d n bytes z)(w:World):(zeroValue t).run P w = .ok z w:=by
 obtain ⟨i,h1,h2,_⟩:=h.info
 simp [zeroValue,typeInfo,h1,h2]
def Ec:TypeDesc->Bool
 | .struct _ | .array _ _=>true
 | _=>false
theorem Tab.run_agg{P:Program}{t:TypeId}{d:TypeDesc}{n bytes:Nat}{z:Value}(h:Tab P t d n bytes z)(w:World):(isAgg t).run P w = .ok (Ec d) w:=by
 unfold isAgg
 rw [Sem.run_bind,run_underlying h.und w]
 cases d<;>simp [Ec]
section
variable {P:Program} {hp:List Ow} {o:Oper} {arg:Operand->AV}
theorem Quiet.move{x:Operand}{r:AV}(hop:o.op = .move x\/o.op = .assign x)(hx:arg x=r):Quiet P hp o arg r:=by
 subst hx
 refine ⟨λbase s ρ ev hok hbs hhp h=>?_⟩
 rcases hop with hop | hop
 all_goals
  have h1:=h x (by rw [hop];simp [Op.operands])
  exact BO (v:=ev x) (by simp [execOp,hop]) ⟨GS.Le.refl s,h1⟩
theorem Em {op : BinOp} {T U : TypeId} {x y : Operand} {a b v : Value} (hop : o.op = .binOp op T x y U) (hx : arg x = .d (ex a)) (hy : arg y = .d (ex b)) (hr : ∀ w, (do eqGuard op T x y a b; binOp op T a b : Sem Value).run P w = .ok v w) : Quiet P hp o arg (.d (ex v)) := by
 refine ⟨λbase s ρ ev hok hbs hhp h=>?_⟩
 have h1:=h x (by rw [hop];simp [Op.operands])
 have h2:=h y (by rw [hop];simp [Op.operands])
 rw [hx] at h1;rw [hy] at h2
 have e1:ev x=a:=h1
 have e2:ev y=b:=h2
 have:=hr s.w
 refine BO (v:=v) ?_ ⟨GS.Le.refl s,rfl⟩
 simp only [execOp,hop,e1,e2,Sem.run_bind,this,Result.andThen_ok,Sem.run_pure]
theorem Quiet.add{T U:TypeId}{x y:Operand}{a b:Int}(hop:o.op = .binOp .add T x y U)(hx:arg x = .d (ex (.int .i64 a)))(hy:arg y = .d (ex (.int .i64 b)))(h1:-9223372036854775808<=a+b)(h2:a+b<=9223372036854775807):Quiet P hp o arg (.d (ex (.int .i64 (a+b)))):=
 Em hop hx hy λw=>by
  have e:IntKind.i64.wrap (a+b)=a+b:=IntWalk.i64_in _ (by omega)
  simp [eqGuard,binOp,Op.intArith,e]
theorem Quiet.sub{T U:TypeId}{x y:Operand}{a b:Int}(hop:o.op = .binOp .sub T x y U)(hx:arg x = .d (ex (.int .i64 a)))(hy:arg y = .d (ex (.int .i64 b)))(h1:-9223372036854775808<=a-b)(h2:a-b<=9223372036854775807):Quiet P hp o arg (.d (ex (.int .i64 (a-b)))):=
 Em hop hx hy λw=>by
  have e:IntKind.i64.wrap (a-b)=a-b:=IntWalk.i64_in _ (by omega)
  simp [eqGuard,binOp,Op.intArith,e]
theorem Quiet.mul{T U:TypeId}{x y:Operand}{a b:Int}(hop:o.op = .binOp .mul T x y U)(hx:arg x = .d (ex (.int .i64 a)))(hy:arg y = .d (ex (.int .i64 b)))(h1:-9223372036854775808<=a*b)(h2:a*b<=9223372036854775807):Quiet P hp o arg (.d (ex (.int .i64 (a*b)))):=
 Em hop hx hy λw=>by
  have e:IntKind.i64.wrap (a*b)=a*b:=IntWalk.i64_in _ (by omega)
  simp [eqGuard,binOp,Op.intArith,e]
def Rk:BinOp->Int->Int->Option Bool
 | .eql,a,b=>some (a==b)
 | .neq,a,b=>some (a != b)
 | .lss,a,b=>some (decide (a<b))
 | .leq,a,b=>some (decide (a<=b))
 | .gtr,a,b=>some (decide (a>b))
 | .geq,a,b=>some (decide (a ≥ b))
 | _,_,_=>none
theorem Kn{op:BinOp}{T U:TypeId}{x y:Operand}{k:IntKind}{a b:Int}{c:Bool}(hop:o.op = .binOp op T x y U)(hx:arg x = .d (ex (.int k a)))(hy:arg y = .d (ex (.int k b)))(hc:Rk op a b=some c):Quiet P hp o arg (.d (ex (.bool c))):=
 Em hop hx hy λw=>by
  cases op<;>simp [Rk] at hc<;>subst hc<;>simp [eqGuard,binOp,Op.intCmp]
theorem Quiet.not{T:TypeId}{x:Operand}{a:Bool}(hop:o.op = .unOp .not T x)(hx:arg x = .d (ex (.bool a))):Quiet P hp o arg (.d (ex (.bool (!a)))):=by
 refine ⟨λbase s ρ ev hok hbs hhp h=>?_⟩
 have h1:=h x (by rw [hop];simp [Op.operands])
 rw [hx] at h1
 have e1:ev x = .bool a:=h1
 exact BO (v:=.bool (!a)) (by simp [execOp,hop,e1,Op.unary]) ⟨GS.Le.refl s,rfl⟩
theorem RH{c x y:Operand}{r:AV}(hop:o.op = .pick c x y)(hx:arg x=r)(hc:arg c = .d (ex (.bool true))):Quiet P hp o arg r:=by
 subst hx
 refine ⟨λbase s ρ ev hok hbs hhp h=>?_⟩
 have h1:=h c (by rw [hop];simp [Op.operands])
 have h2:=h x (by rw [hop];simp [Op.operands])
 rw [hc] at h1
 have e1:ev c = .bool true:=h1
 exact BO (v:=ev x) (by simp [execOp,hop,e1,asBool]) ⟨GS.Le.refl s,h2⟩
theorem RI{c x y:Operand}{r:AV}(hop:o.op = .pick c x y)(hy:arg y=r)(hc:arg c = .d (ex (.bool false))):Quiet P hp o arg r:=by
 subst hy
 refine ⟨λbase s ρ ev hok hbs hhp h=>?_⟩
 have h1:=h c (by rw [hop];simp [Op.operands])
 have h2:=h y (by rw [hop];simp [Op.operands])
 rw [hc] at h1
 have e1:ev c = .bool false:=h1
 exact BO (v:=ev y) (by simp [execOp,hop,e1,asBool]) ⟨GS.Le.refl s,h2⟩
theorem Tv{S T:TypeId}{x:Operand}{k k':IntKind}{a:Int}{d:TypeDesc}{n b n' b':Nat}{z z':Value}(hop:o.op = .convert S T x)(hx:arg x = .d (ex (.int k a)))(hS:Tab P S d n b z)(hT:Tab P T (.int k') n' b' z'):Quiet P hp o arg (.d (ex (.int k' (k'.wrap a)))):=by
 refine ⟨λbase s ρ ev hok hbs hhp h=>?_⟩
 have h1:=h x (by rw [hop];simp [Op.operands])
 rw [hx] at h1
 have e1:ev x = .int k a:=h1
 refine BO (v:=.int k' (k'.wrap a)) ?_ ⟨GS.Le.refl s,rfl⟩
 simp [execOp,hop,e1,convert,run_underlying hS.und,run_underlying hT.und,Conv.intToInt]
theorem Quiet.len{x:Operand}{t:TypeId}{e n b T sz:Nat}{z:Value}{rows:List (List D)}(hop:o.op = .call { callee:=.builtin .len,args:=#[x],argTypes:=#[t] })(hx:Ew hp (arg x)=some (slD T sz rows))(ht:Tab P t (.slice e) n b z):Quiet P hp o arg (.d (ex (.int .i64 rows.length))):=by
 refine ⟨λbase s ρ ev hok hbs hhp h=>?_⟩
 have h1:=CQ hhp (h x (by rw [hop];simp [Op.operands,Call.operands])) hx
 obtain ⟨A,c,e1,h2⟩:=h1
 refine BO (v:=.int .i64 rows.length) ?_ ⟨GS.Le.refl s,rfl⟩
 simp [execOp,hop,resolve,invoke,builtin,e1,Builtin.len_,run_underlying ht.und,goInt]
theorem Quiet.index{x y:Operand}{t:TypeId}{e n b n' b' T sz:Nat}{d:TypeDesc}{z z':Value}{rows:List (List D)}{k:IntKind}{i:Int}(hop:o.op = .indexAddr t x y)(hx:Ew hp (arg x)=some (slD T sz rows))(hy:arg y = .d (ex (.int k i)))(ht:Tab P t (.slice e) n b z)(he:Tab P e d n' b' z')(hsz:n'=sz)(h0:0<=i)(hi:i<rows.length):Quiet P hp o arg (.d (Is T (rows.getD i.toNat []))):=by
 refine ⟨λbase s ρ ev hok hbs hhp h=>?_⟩
 have h1:=CQ hhp (h x (by rw [hop];simp [Op.operands])) hx
 have h2:=h y (by rw [hop];simp [Op.operands])
 rw [hy] at h2
 have e2:ev y = .int k i:=h2
 obtain ⟨A,c,e1,h3,h4,h5⟩:=h1
 obtain ⟨g,p,rfl,h6⟩:=h5 (by omega)
 subst hsz
 refine BO (v:=.pointer (some ⟨g,p+i.toNat*n',none⟩)) ?_ ⟨GS.Le.refl s,g,_,rfl,(h6 i.toNat (by omega)).2⟩
 simp [execOp,hop,e1,e2,Instr.indexAt,asIntOf,run_underlying ht.und,h0,hi,he.run_size,Addr.add_lit]
theorem PN{x y:Operand}{t:TypeId}{e n b n' b' len id off:Nat}{d:TypeDesc}{z z':Value}{k:IntKind}{i:Int}(hop:o.op = .indexAddr t x y)(hx:arg x = .ptr id off)(hy:arg y = .d (ex (.int k i)))(ht:Tab P t (.array len e) n b z)(he:Tab P e d n' b' z')(h0:0<=i)(hi:i<len):Quiet P hp o arg (.ptr id (off+i.toNat*n')):=by
 refine ⟨λbase s ρ ev hok hbs hhp h=>?_⟩
 have h1:=h x (by rw [hop];simp [Op.operands])
 have h2:=h y (by rw [hop];simp [Op.operands])
 rw [hx] at h1;rw [hy] at h2
 have e2:ev y = .int k i:=h2
 obtain ⟨hid,g,h3,e1⟩:=h1
 refine BO (v:=.pointer (some ⟨g,off+i.toNat*n',none⟩)) ?_ ⟨GS.Le.refl s,hid,g,h3,rfl⟩
 simp [execOp,hop,e1,e2,Instr.indexAt,Instr.sureAddr,asIntOf,run_underlying ht.und,h0,hi,he.run_size,Addr.add_lit]
theorem PR{x:Operand}{S:TypeId}{fs:Array Field}{f n b n' b' T:Nat}{fd:Field}{d:TypeDesc}{z z':Value}{ds:List D}(hop:o.op = .fieldAddr S x f)(hx:arg x = .d (Is T ds))(hS:Tab P S (.struct fs) n b z)(hf:fs[f]? = some fd)(he:Tab P fd.type d n' b' z')(hn:n'≠0):Quiet P hp o arg (.d (Is T (ds.drop fd.offset))):=by
 refine ⟨λbase s ρ ev hok hbs hhp h=>?_⟩
 have h1:=h x (by rw [hop];simp [Op.operands])
 rw [hx] at h1
 obtain ⟨g,p,e1,h3⟩:=h1
 refine BO (v:=.pointer (some ⟨g,p+fd.offset,none⟩)) ?_ ⟨GS.Le.refl s,g,_,rfl,h3.drop _⟩
 simp [execOp,hop,e1,Instr.fieldAt,Instr.sureAddr,run_underlying hS.und,hf,fieldPlace,he.run_size,hn,Addr.add_lit]
theorem PQ{x:Operand}{S:TypeId}{fs:Array Field}{f n b n' b' id off:Nat}{fd:Field}{d:TypeDesc}{z z':Value}(hop:o.op = .fieldAddr S x f)(hx:arg x = .ptr id off)(hS:Tab P S (.struct fs) n b z)(hf:fs[f]? = some fd)(he:Tab P fd.type d n' b' z')(hn:n'≠0):Quiet P hp o arg (.ptr id (off+fd.offset)):=by
 refine ⟨λbase s ρ ev hok hbs hhp h=>?_⟩
 have h1:=h x (by rw [hop];simp [Op.operands])
 rw [hx] at h1
 obtain ⟨hid,g,h3,e1⟩:=h1
 refine BO (v:=.pointer (some ⟨g,off+fd.offset,none⟩)) ?_ ⟨GS.Le.refl s,hid,g,h3,rfl⟩
 simp [execOp,hop,e1,Instr.fieldAt,Instr.sureAddr,run_underlying hS.und,hf,fieldPlace,he.run_size,hn,Addr.add_lit]
theorem FV{w:World}{t:TypeId}{d:TypeDesc}{n bytes:Nat}{z:Value}(ht:Tab P t d n bytes z)(hd:Ec d=true)(g p:Nat)(f:Nat->Value)(h:∀j,j<n->w.cell? ⟨g,p+j,none⟩=some (f j)):(loadVar t ⟨g,p,none⟩).run P w = .ok (.agg ((List.range n).map f).toArray) w:=by
 have:=run_loadCells (P:=P) w ⟨g,p,none⟩ n f λj hj=>by rw [Addr.add_lit];exact h j hj
 simp [loadVar,ht.run_agg,hd,ht.run_size,this]
theorem KO{x:Operand}{t:TypeId}{d:TypeDesc}{n b T:Nat}{z:Value}{ds:List D}(hop:o.op = .load t x)(hx:arg x = .d (Is T ds))(ht:Tab P t d n b z)(hd:Ec d=true)(hn:n<=ds.length):Quiet P hp o arg (.d (BF (ds.take n))):=by
 refine ⟨λbase s ρ ev hok hbs hhp h=>?_⟩
 have h1:=h x (by rw [hop];simp [Op.operands])
 rw [hx] at h1
 obtain ⟨g,p,e1,h3⟩:=h1
 have hc:∀j,∃u,j<n->s.w.cell? ⟨g,p+j,none⟩=some u/\u.oneCell'=true/\(Cj ds j).rel s u:=λj=>by
  by_cases hj:j<n
  .obtain ⟨u, h4⟩:=h3.cell (k:=j) (by omega)
   exact ⟨u,λ_=>h4⟩
  .exact ⟨undef,λh=>absurd h hj⟩
 obtain ⟨f,hf⟩:∃f:Nat->Value,∀j,j<n->s.w.cell? ⟨g,p+j,none⟩=some (f j)/\(f j).oneCell'=true/\(Cj ds j).rel s (f j):=⟨λj=>(hc j).choose,λj hj=>(hc j).choose_spec hj⟩
 have hr:=FV ht hd g p f λj hj=>(hf j hj).1
 refine BO (v:=.agg ((List.range n).map f).toArray) ?_ ⟨GS.Le.refl s,_,rfl,by simp;omega,λk hk=>?_⟩
 .simp [execOp,hop,e1,Instr.loadAt,Instr.sureAddr,hr]
 .rw [List.length_take] at hk
  have hkn:k<n:=by omega
  rw [MA hkn]
  exact ⟨f k,by simp [hkn],(hf k hkn).2⟩
theorem PM{x:Operand}{t:TypeId}{d:TypeDesc}{n b T:Nat}{z:Value}{ds:List D}(hop:o.op = .load t x)(hx:arg x = .d (Is T ds))(ht:Tab P t d n b z)(hd:Ec d=false)(hn:0<ds.length):Quiet P hp o arg (.d (Cj ds 0)):=by
 refine ⟨λbase s ρ ev hok hbs hhp h=>?_⟩
 have h1:=h x (by rw [hop];simp [Op.operands])
 rw [hx] at h1
 obtain ⟨g,p,e1,h3⟩:=h1
 obtain ⟨u,h4,h5,h6⟩:=h3.cell hn
 refine BO (v:=u) ?_ ⟨GS.Le.refl s,h6⟩
 simp at h4
 simp [execOp,hop,e1,Instr.loadAt,Instr.sureAddr,loadVar,ht.run_agg,hd,h4]
theorem PK{x:Operand}{t:TypeId}{d:TypeDesc}{n b T id off:Nat}{z:Value}{cells:List AV}{r:AV}(hop:o.op = .load t x)(hx:arg x = .ptr id off)(hh:hp[id]? = some (.var T cells))(ht:Tab P t d n b z)(hd:Ec d=false)(hc:cells[off]? = some r):Quiet P hp o arg r:=by
 refine ⟨λbase s ρ ev hok hbs hhp h=>?_⟩
 have h1:=h x (by rw [hop];simp [Op.operands])
 rw [hx] at h1
 obtain ⟨-,g,h3,e1⟩:=h1
 obtain ⟨g',cs,h4,h5,h6,h7,h8,h9,h10⟩:=hhp id _ hh
 rw [h3] at h4
 cases h4
 obtain ⟨u,h11,h12,h13⟩:=h10 off r hc
 refine BO (v:=u) ?_ ⟨GS.Le.refl s,h13⟩
 have:s.w.cell? ⟨g,off,none⟩=some u:=(BK h6).trans h11
 simp [execOp,hop,e1,Instr.loadAt,Instr.sureAddr,loadVar,ht.run_agg,hd,this]
def SZ(hp:List Ow):List AV->Option (List D)
 | []=>some []
 | a::r=>match Ew hp a,SZ hp r with
  | some x,some l=>some (x::l)
  | _,_=>none
theorem MJ{hp:List Ow}:∀{l:List AV} {ds:List D},SZ hp l=some ds->l.length=ds.length/\∀(k:Nat) av,l[k]? = some av->Ew hp av=some (Cj ds k)
 | [],ds,h=>by cases h;exact ⟨rfl,λk av hk=>by cases hk⟩
 | a::r,ds,h=>by
  unfold SZ at h
  split at h
  .rename_i x l h1 h2
   cases h
   obtain ⟨h3,h4⟩:=MJ h2
   refine ⟨by simp [h3],λk av hk=>?_⟩
   cases k with
   | zero=>cases hk;exact h1
   | succ k=>exact h4 k av (by simpa using hk)
  .cases h
theorem RJ{x:Operand}{t:TypeId}{d:TypeDesc}{n b T id off:Nat}{z:Value}{cells:List AV}{ds:List D}(hop:o.op = .load t x)(hx:arg x = .ptr id off)(hh:hp[id]? = some (.var T cells))(ht:Tab P t d n b z)(hd:Ec d=true)(hc:SZ hp ((cells.drop off).take n)=some ds)(hn:off+n<=cells.length):Quiet P hp o arg (.d (BF ds)):=by
 refine ⟨λbase s ρ ev hok hbs hhp h=>?_⟩
 have h1:=h x (by rw [hop];simp [Op.operands])
 rw [hx] at h1
 obtain ⟨-,g,h3,e1⟩:=h1
 obtain ⟨g',cs,h4,h5,h6,h7,h8,h9,h10⟩:=hhp id _ hh
 rw [h3] at h4
 cases h4
 obtain ⟨hl,hg⟩:=MJ hc
 have hl2:ds.length=n:=by rw [<-hl];simp;omega
 have key:∀j,∃u,j<n->s.w.cell? ⟨g,off+j,none⟩=some u/\u.oneCell'=true/\(Cj ds j).rel s u:=λj=>by
  by_cases hj:j<n
  .have hlt:off+j<cells.length:=by omega
   obtain ⟨u,h11,h12,h13⟩:=h10 (off+j) _ (List.getElem?_eq_getElem hlt)
   refine ⟨u,λ_=>⟨(BK h6).trans h11,h12,?_⟩⟩
   refine CQ hhp h13 (hg j _ ?_)
   rw [List.getElem?_take,if_pos hj,List.getElem?_drop,List.getElem?_eq_getElem hlt]
  .exact ⟨undef,λh=>absurd h hj⟩
 obtain ⟨f,hf⟩:∃f:Nat->Value,∀j,j<n->s.w.cell? ⟨g,off+j,none⟩=some (f j)/\(f j).oneCell'=true/\(Cj ds j).rel s (f j):=⟨λj=>(key j).choose,λj hj=>(key j).choose_spec hj⟩
 have hr:=FV ht hd g off f λj hj=>(hf j hj).1
 refine BO (v:=.agg ((List.range n).map f).toArray) ?_ ⟨GS.Le.refl s,_,rfl,by simp [hl2],λk hk=>?_⟩
 .simp [execOp,hop,e1,Instr.loadAt,Instr.sureAddr,hr]
 .rw [hl2] at hk
  exact ⟨f k,by simp [hk],(hf k hk).2⟩
theorem Quiet.extract{x:Operand}{i:Nat}{ds:List D}(hop:o.op = .extract x i)(hx:arg x = .d (CK ds))(hi:i<ds.length):Quiet P hp o arg (.d (Cj ds i)):=by
 refine ⟨λbase s ρ ev hok hbs hhp h=>?_⟩
 have h1:=h x (by rw [hop];simp [Op.operands])
 rw [hx] at h1
 obtain ⟨cs,e1,h2,h3⟩:=h1
 obtain ⟨u,h4,h5⟩:=h3 i hi
 exact BO (v:=u) (by simp [execOp,hop,e1,Instr.extract,h4]) ⟨GS.Le.refl s,h5⟩
end
def Abs(P:Program)(f:FuncId)(ds:List D)(r:D):Prop:=
 (∀args w,(callFunc f args).run P w = .ok (.enter f args) w)/\∀(s:GS) (vs:List Value),s.Ok->vs.length=ds.length->(∀k,k<ds.length->(Cj ds k).rel s (vs.getD k undef)) ->
  Calls P f vs.toArray s.w λe w'=>∃v,e = .returned v/\∃s':GS,s'.w=w'/\GS.Le s s'/\r.rel s' v
def ArgsLe(hp:List Ow)(arg:Operand->AV):List Operand->List D->Prop
 | [],[]=>True
 | x::l,d::ds=>(∃y,Ew hp (arg x)=some y/\D.le y d)/\ArgsLe hp arg l ds
 | _,_=>False
theorem ArgsLe.nil{hp:List Ow}{arg:Operand->AV}:ArgsLe hp arg [] []:=trivial
theorem ArgsLe.cons{hp:List Ow}{arg:Operand->AV}{x:Operand}{l:List Operand}{d y:D}{ds:List D}(h:Ew hp (arg x)=some y)(hl:D.le y d)(hr:ArgsLe hp arg l ds):ArgsLe hp arg (x::l) (d::ds):=⟨⟨y,h,hl⟩,hr⟩
theorem ArgsLe.rel{base:Nat}{ρ:Nat->Value}{s:GS}{hp:List Ow}{arg:Operand->AV}{ev:Operand->Value}(hh:HpOk base ρ s hp):∀{l:List Operand} {ds:List D},ArgsLe hp arg l ds->(∀x∈l,AVr hp.length ρ s (arg x) (ev x))->l.length=ds.length/\∀k,k<ds.length->(Cj ds k).rel s ((l.map ev).getD k undef)
 | [],[],_,_=>⟨rfl,λk hk=>absurd hk (by simp)⟩
 | [],_::_,h,_=>h.elim
 | _::_,[],h,_=>h.elim
 | x::l,d::ds,⟨⟨y,h1,h2⟩,h3⟩,h=>by
  obtain ⟨h4,h5⟩:=ArgsLe.rel hh h3 λx hx=>h x (List.mem_cons_of_mem _ hx)
  refine ⟨by simp [h4],λk hk=>?_⟩
  cases k with
  | zero=>exact h2 s _ (CQ hh (h x List.mem_cons_self) h1)
  | succ k=>exact h5 k (by simpa using hk)
theorem Quiet.call{P:Program}{hp:List Ow}{o:Oper}{arg:Operand->AV}{f:Operand}{args:List Operand}{tys:Array TypeId}{fid:FuncId}{ds:List D}{r:D}(hop:o.op = .call { callee:=.value f,args:=args.toArray,argTypes:=tys })(hf:arg f = .d (ex (.func (.func fid) #[] #[])))(hc:Abs P fid ds r)(ha:ArgsLe hp arg args ds):Quiet P hp o arg (.d r):=by
 refine ⟨λbase s ρ ev hok hbs hhp h=>?_⟩
 have h1:=h f (by rw [hop];simp [Op.operands,Call.operands])
 rw [hf] at h1
 have e1:ev f = .func (.func fid) #[] #[]:=h1
 obtain ⟨h2,h3⟩:=ArgsLe.rel (ev:=ev) hhp ha λx hx=>h x (by rw [hop];simp [Op.operands,Call.operands,hx])
 have h4:=hc.2 s (args.map ev) hok (by simpa using h2) h3
 unfold RegG.OpStep
 have hrun:(execOp ev o).run P s.w = .ok (.enter fid (args.map ev).toArray) s.w:=by
  simp [execOp,hop,resolve,e1,Deferred.ofValue,invoke,hc.1]
 rw [hrun]
 exact h4.mono λe w' ⟨v,he,s',hs,hl,hr⟩=>⟨v,he,s',hs,hl,hr⟩
structure TyRow where
 t:TypeId
 d:TypeDesc
 n:Nat
 b:Nat
 z:Value
def TS : List TyRow := [⟨2, .int .i64, 1, 8, .int .i64 0⟩, ⟨3, .int .i64, 1, 8, .int .i64 0⟩, ⟨4, .bool, 1, 1, .bool false⟩, ⟨5, .int .u8, 1, 1, .int .u8 0⟩, ⟨6, .int .u8, 1, 1, .int .u8 0⟩, ⟨8, .struct #[{ name := "x", type := 2, offset := 0, embedded := false, tag := "", pkgPath := "runtime", byteOffset := 0 }, { name := "y", type := 3, offset := 1, embedded := false, tag := "", pkgPath := "runtime", byteOffset := 8 }, { name := "signed", type := 4, offset := 2, embedded := false, tag := "", pkgPath := "runtime", byteOffset := 16 }, { name := "code", type := 6, offset := 3, embedded := false, tag := "", pkgPath := "runtime", byteOffset := 17 }], 4, 24, .agg #[.int .i64 0, .int .i64 0, .bool false, .int .u8 0]⟩, ⟨9, .string, 1, 16, .string ByteArray.empty⟩, ⟨10, .string, 1, 16, .string ByteArray.empty⟩, ⟨11, .string, 1, 16, .string ByteArray.empty⟩, ⟨12, .int .u64, 1, 8, .int .u64 0⟩, ⟨14, .struct #[{ name := "msg", type := 9, offset := 0, embedded := false, tag := "", pkgPath := "runtime", byteOffset := 0 }, { name := "addr", type := 12, offset := 1, embedded := false, tag := "", pkgPath := "runtime", byteOffset := 16 }], 2, 24, .agg #[.string ByteArray.empty, .int .u64 0]⟩, ⟨19, .struct #[{ name := "typ", type := 17, offset := 0, embedded := false, tag := "", pkgPath := "internal/runtime/maps", byteOffset := 0 }], 1, 8, .agg #[.pointer none]⟩, ⟨22, .slice 121, 1, 24, .slice none 0 0⟩, ⟨24, .struct #[{ name := "V", type := 22, offset := 0, embedded := false, tag := "", pkgPath := "", byteOffset := 0 }], 1, 24, .agg #[.slice none 0 0]⟩, ⟨27, .slice 62, 1, 24, .slice none 0 0⟩, ⟨29, .slice 60, 1, 24, .slice none 0 0⟩, ⟨31, .int .i64, 1, 8, .int .i64 0⟩, ⟨34, .slice 46, 1, 24, .slice none 0 0⟩, ⟨38, .slice 108, 1, 24, .slice none 0 0⟩, ⟨40, .struct #[{ name := "Neg", type := 4, offset := 0, embedded := false, tag := "", pkgPath := "", byteOffset := 0 }, { name := "Mag", type := 38, offset := 1, embedded := false, tag := "", pkgPath := "", byteOffset := 8 }], 2, 32, .agg #[.bool false, .slice none 0 0]⟩, ⟨42, .struct #[{ name := "Num", type := 40, offset := 0, embedded := false, tag := "", pkgPath := "", byteOffset := 0 }, { name := "Den", type := 40, offset := 2, embedded := false, tag := "", pkgPath := "", byteOffset := 32 }], 4, 64, .agg #[.bool false, .slice none 0 0, .bool false, .slice none 0 0]⟩, ⟨43, .slice 81, 1, 24, .slice none 0 0⟩, ⟨44, .slice 81, 1, 24, .slice none 0 0⟩, ⟨46, .struct #[{ name := "A", type := 42, offset := 0, embedded := false, tag := "", pkgPath := "", byteOffset := 0 }, { name := "P", type := 44, offset := 4, embedded := false, tag := "", pkgPath := "", byteOffset := 64 }], 5, 88, .agg #[.bool false, .slice none 0 0, .bool false, .slice none 0 0, .slice none 0 0]⟩, ⟨60, .array 8 3, 8, 64, .agg #[.int .i64 0, .int .i64 0, .int .i64 0, .int .i64 0, .int .i64 0, .int .i64 0, .int .i64 0, .int .i64 0]⟩, ⟨62, .slice 42, 1, 24, .slice none 0 0⟩, ⟨63, .slice 44, 1, 24, .slice none 0 0⟩, ⟨69, .slice 42, 1, 24, .slice none 0 0⟩, ⟨81, .struct #[{ name := "C", type := 42, offset := 0, embedded := false, tag := "", pkgPath := "", byteOffset := 0 }, { name := "M", type := 60, offset := 4, embedded := false, tag := "", pkgPath := "", byteOffset := 64 }], 12, 128, .agg #[.bool false, .slice none 0 0, .bool false, .slice none 0 0, .int .i64 0, .int .i64 0, .int .i64 0, .int .i64 0, .int .i64 0, .int .i64 0, .int .i64 0, .int .i64 0]⟩, ⟨108, .int .u32, 1, 4, .int .u32 0⟩, ⟨113, .int .u64, 1, 8, .int .u64 0⟩, ⟨121, .int .i8, 1, 1, .int .i8 0⟩, ⟨124, .struct #[{ name := "N", type := 121, offset := 0, embedded := false, tag := "", pkgPath := "", byteOffset := 0 }, { name := "D", type := 121, offset := 1, embedded := false, tag := "", pkgPath := "", byteOffset := 1 }, { name := "K", type := 5, offset := 2, embedded := false, tag := "", pkgPath := "", byteOffset := 2 }], 3, 3, .agg #[.int .i8 0, .int .i8 0, .int .u8 0]⟩, ⟨137, .slice 40, 1, 24, .slice none 0 0⟩, ⟨148, .int .u64, 1, 8, .int .u64 0⟩, ⟨153, .int .i64, 1, 8, .int .i64 0⟩, ⟨161, .int .u64, 1, 8, .int .u64 0⟩, ⟨178, .int .u8, 1, 1, .int .u8 0⟩]
def Ns:List TyRow->Nat->Option TyRow
 | [],_=>none
 | p::r,t=>bif Nat.beq p.t t then some p else Ns r t
def Tc:List TyRow->Prop
 | []=>True
 | p::r=>Tab Tryz.prog p.t p.d p.n p.b p.z/\Tc r
theorem TW:Tc TS:=⟨⟨Tryz.underlying2,by kernel_rfl⟩,⟨Tryz.underlying3,by kernel_rfl⟩,⟨Tryz.underlying4,by kernel_rfl⟩,⟨Tryz.underlying5,by kernel_rfl⟩,⟨Tryz.underlying6,by kernel_rfl⟩,⟨Tryz.underlying8,by kernel_rfl⟩,⟨Tryz.underlying9,by kernel_rfl⟩,⟨Tryz.underlying10,by kernel_rfl⟩,⟨Tryz.underlying11,by kernel_rfl⟩,⟨Tryz.underlying12,by kernel_rfl⟩,⟨Tryz.underlying14,by kernel_rfl⟩,⟨Tryz.underlying19,by kernel_rfl⟩,⟨Tryz.underlying22,by kernel_rfl⟩,⟨Tryz.underlying24,by kernel_rfl⟩,⟨Tryz.underlying27,by kernel_rfl⟩,⟨Tryz.underlying29,by kernel_rfl⟩,⟨Tryz.underlying31,by kernel_rfl⟩,⟨Tryz.underlying34,by kernel_rfl⟩,⟨Tryz.underlying38,by kernel_rfl⟩,⟨Tryz.underlying40,by kernel_rfl⟩,⟨Tryz.underlying42,by kernel_rfl⟩,⟨Tryz.underlying43,by kernel_rfl⟩,⟨Tryz.underlying44,by kernel_rfl⟩,⟨Tryz.underlying46,by kernel_rfl⟩,⟨Tryz.underlying60,by kernel_rfl⟩,⟨Tryz.underlying62,by kernel_rfl⟩,⟨Tryz.underlying63,by kernel_rfl⟩,⟨Tryz.underlying69,by kernel_rfl⟩,⟨Tryz.underlying81,by kernel_rfl⟩,⟨Tryz.underlying108,by kernel_rfl⟩,⟨Tryz.underlying113,by kernel_rfl⟩,⟨Tryz.underlying121,by kernel_rfl⟩,⟨Tryz.underlying124,by kernel_rfl⟩,⟨Tryz.underlying137,by kernel_rfl⟩,⟨Tryz.underlying148,by kernel_rfl⟩,⟨Tryz.underlying153,by kernel_rfl⟩,⟨Tryz.underlying161,by kernel_rfl⟩,⟨Tryz.underlying178,by kernel_rfl⟩,trivial⟩
theorem Lv:∀{l:List TyRow},Tc l->∀{t:Nat} {p:TyRow},Ns l t=some p->p.t=t/\Tab Tryz.prog p.t p.d p.n p.b p.z
 | [],_,_,_,h=>by cases h
 | q::l,⟨h1,h2⟩,t,p,h=>by
  unfold Ns at h
  cases hb:Nat.beq q.t t with
  | true=>rw [hb] at h;cases h;exact ⟨Nat.eq_of_beq_eq_true hb,h1⟩
  | false=>rw [hb] at h;exact Lv h2 h
theorem Ad{t:TypeId}{d:TypeDesc}{n b:Nat}{z:Value}(h:Ns TS t=some ⟨t,d,n,b,z⟩):Tab Tryz.prog t d n b z:=(Lv TW h).2
end Go.Proofs.YtnbfnoebjjdmnaaGreat
