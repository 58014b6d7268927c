/- Part 1 of the proof of squaresGram_holds. No condition. -/
import Derived.BigQuiet
import Derived.Deep.QuietTactic
import Derived.Deep.RegionHeld3
import Derived.Laws.AppendOwnNone
import Derived.Test.YtnbfnoebjjdmnaaGreatRows
import Derived.WalkKit
import Derived.WalkLawsBesides
import Derived.WalkSpells
set_option linter.unusedSimpArgs false
set_option linter.unusedVariables false
set_option maxRecDepth 100000
set_option maxHeartbeats 800000
namespace Go.Proofs.YtnbfnoebjjdmnaaGreat
open Go.RowKit
def Ext(w w':World):Prop:=Below w.heap.size w w'
theorem Ext.refl(w:World):Ext w w:=Below.refl _ _
theorem Ext.trans{a b c:World}(h:Ext a b)(k:Ext b c):Ext a c:=Below.trans h (Below.mono k h.size)
theorem Ext.drew{a b:World}(h:Ext a b):Ext a b.drew:=Below.drew h
theorem Ext.drewN{a b:World}(h:Ext a b)(n:Nat):Ext a (b.drewN n):=by
 obtain ⟨h1,h2,h3,h4,h5⟩:=h
 exact ⟨h1,h2,h3,h4,h5⟩
theorem Ext.size{a b:World}(h:Ext a b):a.heap.size<=b.heap.size:=Below.size h
theorem Ext.block{a b:World}(h:Ext a b){k:Nat}(hk:k<a.heap.size):b.heap[k]? = a.heap[k]?:=Below.block h k hk
theorem Ext.cell{a b:World}(h:Ext a b){p:Addr}(hp:p.block<a.heap.size):b.cell? p=a.cell? p:=Below.cell h hp
theorem Ext.frozen{a b:World}(h:Ext a b){p:Addr}(hp:p.block<a.heap.size):b.frozen? p=a.frozen? p:=Below.frozen h hp
theorem Ext.cellv{a b:World}(h:Ext a b){p:Addr}{v:Value}(hv:a.cell? p=some v):b.cell? p=some v:=(h.cell (World.block_lt_of_cell? a p hv)).trans hv
theorem Ext.alloc{a b:World}(h:Ext a b)(o:Obj):Ext a (b.alloc o):=Below.alloc h h.size o
theorem Ext.below{a b:World}(h:Ext a b){B:Nat}(hB:B<=a.heap.size):Below B a b:=Below.mono h hB
theorem Ac{p:Prop}(h:p):Hid p:=h
def OpStep(P:Program)(o:Oper)(ev:Operand->Value)(w:World)(R:Value->World->Prop):Prop:=
 match (execOp ev o).run P w with
 | .ok (.value v) w'=>R v w'
 | .ok .skip w'=>R undef w'
 | .ok (.enter f args) w'=>Calls P f args w' λe w''=>∃v,e = .returned v/\R v w''
 | _=>False
structure Shape where
 env:List (Nat×Nat)
 bef:List Nat
 deps:List Nat
def upd(g:Nat->Value)(i:Nat)(v:Value):Nat->Value:=λk=>if k=i then v else g k
def Ox(ev:Operand->Value)(g:Nat->Value):List (Nat×Nat)->Prop
 | []=>True
 | (t,j)::r=>ev (.tmp t)=g j/\Ox ev g r
def Dv(o:Oper)(g:Nat->Value):Bool:=
 match o.guard with
 | none=>true
 | some (j,b)=>match g j with | .bool c=>c==b | _=>false
abbrev Fact:=List Value->World->Prop
def Known(sh:List Shape)(Rs:List Fact)(i:Nat)(g:Nat->Value)(w:World):Prop:=
 ∀x,sh[i]? = some x->∀j∈x.bef,∀y F,sh[j]? = some y->Rs[j]? = some F->F (y.deps.map g) w
def StepAt(P:Program)(sh:List Shape)(Rs:List Fact)(a:Act)(w0:World)(i:Nat)(o:Oper)(x:Shape)(F:Fact):Prop:=
 ∀(g:Nat->Value) (w:World) (ev:Operand->Value),Ext w0 w->Known sh Rs i g w->Ox ev g x.env ->
  (∀t,(∀p∈x.env,p.1≠t)->ev (.tmp t)=a.tmps.getD t undef)->(∀v,ev (.const v)=v)->(∀f,ev (.func f) = .func (.func f) #[] #[]) ->
  (Dv o g=true->OpStep P o ev w λv w'=>Ext w w'/\F (x.deps.map (upd g i v)) w')/\(Dv o g=false->F (x.deps.map (upd g i undef)) w)
def StepsAt(P:Program)(sh:List Shape)(Rs:List Fact)(a:Act)(w0:World):Nat->List Oper->List Shape->List Fact->Prop
 | i,o::L,x::S,F::T=>StepAt P sh Rs a w0 i o x F/\StepsAt P sh Rs a w0 (i+1) L S T
 | _,_,[],[]=>True
 | _,_,_,_=>False
theorem StepsAt.at{P:Program}{sh:List Shape}{Rs:List Fact}{a:Act}{w0:World}:∀{S:List Shape} {T:List Fact} {L:List Oper} {i:Nat},StepsAt P sh Rs a w0 i L S T ->
  S.length=T.length/\∀k o x,L[k]? = some o->S[k]? = some x->∃F,T[k]? = some F/\StepAt P sh Rs a w0 (i+k) o x F
 | [],[],L,i,_=>⟨rfl,λk o x _ hx=>by simp at hx⟩
 | [],_::_,L,i,h=>by cases L<;>exact h.elim
 | _::_,[],L,i,h=>by cases L<;>exact h.elim
 | x::S,F::T,[],i,h=>h.elim
 | x::S,F::T,o::L,i,h=>by
  obtain ⟨h1,h2⟩:=h
  obtain ⟨hl,hh⟩:=StepsAt.at h2
  refine ⟨by simp [hl],λk o' x' ho hx=>?_⟩
  cases k with
  | zero=>
   simp at ho hx
   subst ho;subst hx
   exact ⟨F,rfl,h1⟩
  | succ k=>
   simp at ho hx
   obtain ⟨F',hF,hs⟩:=hh k o' x' ho hx
   refine ⟨F',by simpa using hF,?_⟩
   have:i+(k+1)=i+1+k:=by omega
   rw [this]
   exact hs
def BT(o:Oper):List Nat:=(o.after.toList.filter λe=>Region.binds .any e).map (·.on)
def Cn(sh:List Shape)(j:Nat):List Nat:=(sh[j]?.map (·.bef)).getD []
def Cd:Op->Bool
 | .select ..=>false
 | _=>true
def Dt(L:List Oper)(sh:List Shape)(i:Nat)(o:Oper)(x:Shape):Bool:=
 x.bef.all (λj=>(BT o).any λe=>e==j||(Cn sh e).contains j) &&
 x.deps.all (λk=>k==i||x.bef.contains k) &&
 x.env.all (λp=>x.bef.contains p.2&&decide (p.2<sh.length)&&(match L[p.2]? with | some o'=>o'.dst==some p.1 | none=>false)) &&
 o.op.operands.toList.all (fun | .tmp t=>(x.env.map (·.1)).contains t||((List.range sh.length).all λj=>match L[j]? with | some o'=>o'.dst != some t||j==i||(Cn sh j).contains i | none=>true) | _=>true) &&
 (match o.guard with | some (j,_)=>x.bef.contains j&&decide (j<sh.length)&&(match L[j]? with | some o'=>o'.dst.isSome | none=>false) | none=>true) &&
 Cd o.op
def XE(L:List Oper)(sh:List Shape)(t:Nat)(o:Oper):Bool:=
 (List.range t).all λj=>(BT o).any λe=>e==j||(if e<sh.length then (Cn sh e).contains j else decide (j<e))
def CG(L:List Oper)(sh:List Shape):Bool:=
 decide (sh.length<=L.length) &&
 L.zipIdx.all (λ(o,i)=>(BT o).all (λe=>decide (e<i)) &&
  (match sh[i]? with | some x=>Dt L sh i o x | none=>XE L sh i o)) &&
 (List.range sh.length).all (λi=>(List.range sh.length).all λj=>i==j||(match L[i]?,L[j]? with | some o,some o'=>o.dst.isNone||o.dst != o'.dst | _,_=>true))
def EO(L:List Oper)(n sz:Nat):Bool:=(L.take n).all λo=>match o.dst with | some d=>decide (d<sz) | none=>true
def CM(g:Nat->Value):List Oper->Nat->Act->Act
 | [],_,a=>a
 | o::r,i,a=>CM g r (i+1) (a.put o.dst (g i))
section
variable {P:Program} {L:List Oper} {sh:List Shape} {Rs:List Fact} {a:Act} {w0:World}
theorem Cp(h:CG L sh=true):sh.length<=L.length:=by
 simp only [CG,Bool.and_eq_true,decide_eq_true_eq] at h
 exact h.1.1
theorem BQ(h:CG L sh=true){i:Nat}{o:Oper}(ho:L[i]? = some o) :
  (∀e∈BT o,e<i)/\(∀x,sh[i]? = some x->Dt L sh i o x=true)/\(sh[i]? = none->XE L sh i o=true):=by
 simp only [CG,Bool.and_eq_true] at h
 have h2:=List.all_eq_true.1 h.1.2 (o,i) (by
  rw [List.mem_zipIdx_iff_getElem?]
  exact ho)
 simp only [Bool.and_eq_true,List.all_eq_true,decide_eq_true_eq] at h2
 refine ⟨h2.1,λx hx=>?_,λhx=>?_⟩
 .have:=h2.2;rw [hx] at this;exact this
 .have:=h2.2;rw [hx] at this;exact this
theorem Ee(h:CG L sh=true){i j:Nat}{o o':Oper}{d:Nat}(hi:i<sh.length)(hj:j<sh.length)(ho:L[i]? = some o)(ho':L[j]? = some o')(hd:o.dst=some d)(hd':o'.dst=some d):i=j:=by
 simp only [CG,Bool.and_eq_true] at h
 have h2:=List.all_eq_true.1 (List.all_eq_true.1 h.2 i (List.mem_range.2 hi)) j (List.mem_range.2 hj)
 rw [ho,ho'] at h2
 simp [hd,hd'] at h2
 exact h2
theorem Ie{o:Oper}{e:Edge}(he:e∈o.after)(hb:Region.binds .any e=true):e.on∈BT o:=by
 unfold BT
 exact List.mem_map.2 ⟨e,List.mem_filter.2 ⟨by simpa using he,hb⟩,rfl⟩
theorem GC{o:Oper}{k:Nat}(h:k∈BT o):∃e∈o.after,Region.binds .any e=true/\e.on=k:=by
 unfold BT at h
 obtain ⟨e,he,rfl⟩:=List.mem_map.1 h
 obtain ⟨h1,h2⟩:=List.mem_filter.1 he
 exact ⟨e,by simpa using h1,h2,rfl⟩
structure HInv(L:List Oper)(sh:List Shape)(Rs:List Fact)(a:Act)(w0:World)(listed:Array Bool)(g:Nat->Value)(a':Act)(w':World):Prop where
 size:listed.size=L.length
 closed:∀j o,L[j]? = some o->listed.getD j false=true->∀e∈BT o,listed.getD e false=true
 tail:∀t,sh.length<=t->listed.getD t false=false
 asz:a'.tmps.size=a.tmps.size
 adef:a'.defers=a.defers
 a1:∀j o d,j<sh.length->L[j]? = some o->listed.getD j false=true->o.dst=some d->a'.tmps[d]? = some (g j)
 a2:∀t,(∀j o,j<sh.length->L[j]? = some o->listed.getD j false=true->o.dst≠some t)->a'.tmps[t]? = a.tmps[t]?
 facts:∀j y F,sh[j]? = some y->Rs[j]? = some F->listed.getD j false=true->F (y.deps.map g) w'
 ext:Ext w0 w'
theorem Db{j:Nat}{y:Shape}(h:sh[j]? = some y):j<sh.length:=(List.getElem?_eq_some_iff.1 h).1
theorem CO(hok:CG L sh=true){listed:Array Bool}(hc:∀j o,L[j]? = some o->listed.getD j false=true->∀e∈BT o,listed.getD e false=true) :
  ∀(i:Nat) (x:Shape) (o:Oper),sh[i]? = some x->L[i]? = some o->(∀e∈BT o,listed.getD e false=true)->∀j∈x.bef,listed.getD j false=true:=by
 intro i
 induction i using Nat.strongRecOn with
 | _ i ih=>
  intro x o hx ho hed j hj
  obtain ⟨hlt,hh,_⟩:=BQ hok ho
  have h1:=hh x hx
  simp only [Dt,Bool.and_eq_true] at h1
  have h2:=List.all_eq_true.1 h1.1.1.1.1.1 j hj
  obtain ⟨e,he,he2⟩:=List.any_eq_true.1 h2
  have hle:=hed e he
  simp only [Bool.or_eq_true,beq_iff_eq] at he2
  rcases he2 with rfl | he2
  .exact hle
  .have hei:=hlt e he
   cases hy:sh[e]? with
   | none=>simp [Cn,hy] at he2
   | some y=>
    have hel:e<L.length:=Nat.lt_of_lt_of_le (Db hy) (Cp hok)
    have hoe:L[e]? = some L[e]:=List.getElem?_eq_getElem hel
    refine ih e hei y _ hy hoe (hc e _ hoe hle) j ?_
    simpa [Cn,hy] using he2
noncomputable def Lc (a:Act) (g:Nat->Value) (env:List (Nat×Nat)):Operand->Value
 | .tmp t=>match env.find? (λp=>p.1==t) with
  | some p=>g p.2
  | none=>a.tmps.getD t undef
 | .const v=>v
 | .global b=>.pointer (some ⟨b,0,none⟩)
 | .func f=>.func (.func f) #[] #[]
theorem EL(hok:CG L sh=true){i:Nat}{x:Shape}{o:Oper}(hx:sh[i]? = some x)(ho:L[i]? = some o){p:Nat×Nat}(hp:p∈x.env) :
  p.2∈x.bef/\p.2<sh.length/\∃o',L[p.2]? = some o'/\o'.dst=some p.1:=by
 have h1:=(BQ hok ho).2.1 x hx
 simp only [Dt,Bool.and_eq_true] at h1
 have h2:=List.all_eq_true.1 h1.1.1.1.2 p hp
 simp only [Bool.and_eq_true,decide_eq_true_eq] at h2
 obtain ⟨⟨h3,h4⟩,h5⟩:=h2
 refine ⟨by simpa using h3,h4,?_⟩
 split at h5
 .rename_i o' ho';exact ⟨o',ho',by simpa using h5⟩
 .cases h5
theorem Mr{ev:Operand->Value}{g:Nat->Value}:∀{env:List (Nat×Nat)},(∀p∈env,ev (.tmp p.1)=g p.2)->Ox ev g env
 | [],_=>trivial
 | (t,j)::r,h=>⟨h (t,j) (by simp),Mr λp hp=>h p (by simp [hp])⟩
theorem step_inv(hok:CG L sh=true)(hd:EO L sh.length a.tmps.size=true)
  (hstab:∀F∈Rs,∀vs w1 w2,Ext w1 w2->F vs w1->F vs w2)
  {listed:Array Bool} {g:Nat->Value} {a':Act} {w':World} (inv:HInv L sh Rs a w0 listed g a' w') {i:Nat} {o:Oper} {x:Shape} {F:Fact} (ho:L[i]? = some o) (hx:sh[i]? = some x) (hF:Rs[i]? = some F)
  (hun:listed.getD i false=false) (hed:∀e∈BT o,listed.getD e false=true) {v:Value} {w'':World} (he:Ext w' w'') (hf:F (x.deps.map (upd g i v)) w'') :
  HInv L sh Rs a w0 (listed.setIfInBounds i true) (upd g i v) (a'.put o.dst v) w'':=by
 have hin:i<sh.length:=Db hx
 have hil:i<listed.size:=by rw [inv.size];exact (List.getElem?_eq_some_iff.1 ho).1
 have hset:∀j,(listed.setIfInBounds i true).getD j false=true->j≠i->listed.getD j false=true:=λj h hj=>by
  rw [getD_set_ne false (λe=>hj e.symm)] at h;exact h
 have hnb:∀j y oj,sh[j]? = some y->L[j]? = some oj->listed.getD j false=true->i∉y.bef:=λj y oj hy hoj hl hi=>by
  have:=CO hok inv.closed j y oj hy hoj (inv.closed j oj hoj hl) i hi
  rw [hun] at this;cases this
 refine ⟨by simp [inv.size],λj oj hoj hl e he'=>?_,λt ht=>?_,?_,?_,λj oj d hj hoj hl hdj=>?_,λt ht=>?_,λj y G hy hG hl=>?_,inv.ext.trans he⟩
 .by_cases hji:j=i
  .subst hji
   have:oj=o:=Option.some.inj (hoj.symm.trans ho)
   subst this
   exact getD_set_true (hed e he')
  .exact getD_set_true (inv.closed j oj hoj (hset j hl hji) e he')
 .rw [getD_set_ne false (by omega)];exact inv.tail t ht
 .unfold Act.put;split<;>simp [inv.asz]
 .unfold Act.put;split<;>simp [inv.adef]
 .by_cases hji:j=i
  .subst hji
   have:oj=o:=Option.some.inj (hoj.symm.trans ho)
   subst this
   have hdl:d<a'.tmps.size:=by
    rw [inv.asz]
    have h2:=List.all_eq_true.1 hd oj (List.mem_of_getElem? (i:=j) (by rw [List.getElem?_take];simp [hin,hoj]))
    simp only [hdj,decide_eq_true_eq] at h2
    exact h2
   simp [Act.put,hdj,upd,hdl]
  .have hlj:=hset j hl hji
   have hne:o.dst≠some d:=λe=>hji (Ee hok hj hin hoj ho hdj e)
   rw [show upd g i v j=g j by simp [upd,hji],<-inv.a1 j oj d hj hoj hlj hdj]
   unfold Act.put
   split
   .rename_i d' hd'
    have:d'≠d:=λe=>hne (by rw [hd',e])
    simp [Array.getElem?_setIfInBounds_ne this]
   .rfl
 .have h2:o.dst≠some t:=by
   refine ht i o hin ho ?_
   simp [hil]
  rw [<-inv.a2 t λj oj hj hoj hl=>ht j oj hj hoj (getD_set_true hl)]
  unfold Act.put
  split
  .rename_i d' hd'
   have:d'≠t:=λe=>h2 (by rw [hd',e])
   simp [Array.getElem?_setIfInBounds_ne this]
  .rfl
 .by_cases hji:j=i
  .subst hji
   have e1:y=x:=Option.some.inj (hy.symm.trans hx)
   have e2:G=F:=Option.some.inj (hG.symm.trans hF)
   subst e1;subst e2
   exact hf
  .have hlj:=hset j hl hji
   have hjl:j<L.length:=Nat.lt_of_lt_of_le (Db hy) (Cp hok)
   have hoj:L[j]? = some L[j]:=List.getElem?_eq_getElem hjl
   have hib:=hnb j y _ hy hoj hlj
   have hmap:y.deps.map (upd g i v)=y.deps.map g:=by
    refine List.map_congr_left λk hk=>?_
    have h1:=(BQ hok hoj).2.1 y hy
    simp only [Dt,Bool.and_eq_true] at h1
    have h2:=List.all_eq_true.1 h1.1.1.1.1.2 k hk
    simp only [Bool.or_eq_true,beq_iff_eq] at h2
    have hki:k≠i:=by
     rintro rfl
     rcases h2 with h2 | h2
     .exact hji h2.symm
     .exact hib (by simpa using h2)
    simp [upd,hki]
   rw [hmap]
   exact hstab G (List.mem_of_getElem? hG) _ _ _ he (inv.facts j y G hy hG hlj)
theorem eval_operands(hok:CG L sh=true){listed:Array Bool}{g:Nat->Value}{a':Act}{w':World}(inv:HInv L sh Rs a w0 listed g a' w'){i:Nat}{o:Oper}{x:Shape}(ho:L[i]? = some o)(hx:sh[i]? = some x)
  (hun:listed.getD i false=false) (hed:∀e∈BT o,listed.getD e false=true):∀y∈o.op.operands,a'.eval y=Lc a g x.env y:=by
 intro y hy
 cases y with
 | tmp t=>
  show a'.tmps.getD t undef=_
  cases hfd:x.env.find? (λp=>p.1==t) with
  | some p=>
   have hp:p∈x.env:=List.mem_of_find?_eq_some hfd
   have hpt:p.1=t:=by simpa using List.find?_some hfd
   obtain ⟨h1,h2,o',ho',hd'⟩:=EL hok hx ho hp
   have hl:=CO hok inv.closed i x o hx ho hed p.2 h1
   have:=inv.a1 p.2 o' p.1 h2 ho' hl hd'
   simp only [Lc,hfd]
   rw [hpt] at this
   simp [this]
  | none=>
   simp only [Lc,hfd]
   have h1:=(BQ hok ho).2.1 x hx
   simp only [Dt,Bool.and_eq_true] at h1
   have h2:=List.all_eq_true.1 h1.1.1.2 (.tmp t) (by simpa using hy)
   simp only [Bool.or_eq_true] at h2
   rcases h2 with h2 | h2
   .exfalso
    have:t∈x.env.map (·.1):=by simpa using h2
    obtain ⟨p,hp,hpt⟩:=List.mem_map.1 this
    have:=List.find?_eq_none.1 hfd p hp
    simp [hpt] at this
   .have:a'.tmps[t]? = a.tmps[t]?:=by
     refine inv.a2 t λj oj hj hoj hl hdj=>?_
     have h3:=List.all_eq_true.1 h2 j (List.mem_range.2 hj)
     rw [hoj] at h3
     simp [hdj] at h3
     rcases h3 with h3 | h3
     .subst h3;rw [hun] at hl;cases hl
     .cases hy':sh[j]? with
      | none=>rw [List.getElem?_eq_none_iff] at hy';omega
      | some y'=>
       have:=CO hok inv.closed j y' oj hy' hoj (inv.closed j oj hoj hl) i (by simpa [Cn,hy'] using h3)
       rw [hun] at this;cases this
    rw [Array.getD_eq_getD_getElem?,Array.getD_eq_getD_getElem?,this]
 | const v=>rfl
 | global b=>rfl
 | func f=>rfl
theorem wanted_of(hok:CG L sh=true){listed:Array Bool}{g:Nat->Value}{a':Act}{w':World}(inv:HInv L sh Rs a w0 listed g a' w'){i:Nat}{o:Oper}{x:Shape}(ho:L[i]? = some o)(hx:sh[i]? = some x)
  (hed:∀e∈BT o,listed.getD e false=true):Region.wanted o (yielded L.toArray a'.tmps)=Dv o g:=by
 unfold Region.wanted Dv
 cases hg:o.guard with
 | none=>rfl
 | some jb=>
  obtain ⟨j,b⟩:=jb
  have h1:=(BQ hok ho).2.1 x hx
  simp only [Dt,Bool.and_eq_true] at h1
  have h2:=h1.1.2
  rw [hg] at h2
  simp only [Bool.and_eq_true,decide_eq_true_eq] at h2
  obtain ⟨⟨h3,h4⟩,h5⟩:=h2
  have hl:=CO hok inv.closed i x o hx ho hed j (by simpa using h3)
  split at h5
  .rename_i o' ho'
   obtain ⟨d,hd'⟩:=Option.isSome_iff_exists.1 h5
   have:=inv.a1 j o' d h4 ho' hl hd'
   unfold yielded
   simp only [List.getElem?_toArray,ho',Option.bind_some,hd',this]
   cases g j<;>simp
  .cases h5
theorem opStep_wp{o:Oper}{ev:Operand->Value}{a':Act}{w':World}{Q:Exit->Act->World->Prop}{R:Value->World->Prop}{K:Act->World->Prop}(hns:Cd o.op=true)(hev:∀y∈o.op.operands,a'.eval y=ev y)
  (h:OpStep P o ev w' R) (hK:∀v w'',R v w''->K (a'.put o.dst v) w''):o.wp P a' w' K Q:=by
 unfold Oper.wp
 have hs:∀cs b,o.op ≠ .select cs b:=by
  intro cs b e
  rw [e] at hns
  cases hns
 rw [execOp_congr o hs hev]
 unfold OpStep at h
 split at h
 .rename_i v w'' hr;rw [hr];exact hK _ _ h
 .rename_i w'' hr;rw [hr];exact hK _ _ h
 .rename_i f args w'' hr
  rw [hr]
  exact Calls.mono h λe w3 ⟨v,he,hR⟩=>by subst he;exact hK _ _ hR
 .exact h.elim
theorem HF{listed:Array Bool}{j:Nat}(h:j<listed.size):listed.getD j true=listed.getD j false:=by simp [h]
theorem Jm(hok:CG L sh=true){listed:Array Bool}(hsz:listed.size=L.length){i:Nat}(hi:i∈Region.ready .any L.toArray listed) :
  listed.getD i false=false/\∃o,L[i]? = some o/\∀e∈BT o,listed.getD e false=true:=by
 obtain ⟨h1,o,ho,hall⟩:=mem_ready.1 hi
 have ho':L[i]? = some o:=by simpa using ho
 have hil:i<listed.size:=by rw [hsz];exact (List.getElem?_eq_some_iff.1 ho').1
 refine ⟨by rw [<-HF hil];exact h1,o,ho',λe he=>?_⟩
 obtain ⟨e',he',hb,rfl⟩:=GC he
 exact hall e' he' hb
theorem HI(hok:CG L sh=true){listed:Array Bool}(hsz:listed.size=L.length):∀(i:Nat),i<L.length->listed.getD i false=false->∃k,k<=i/\k∈Region.ready .any L.toArray listed:=by
 intro i
 induction i using Nat.strongRecOn with
 | _ i ih=>
  intro hi hun
  by_cases h:∃e,e<i/\listed.getD e false=false
  .obtain ⟨e,he,hu⟩:=h
   obtain ⟨k,hk,hr⟩:=ih e he (by omega) hu
   exact ⟨k,by omega,hr⟩
  .refine ⟨i, Nat.le_refl _, mem_ready.2 ⟨by rw [HF (by omega)]; exact hun, L[i], by simp [hi], λe he hb=>?_⟩⟩
   have hlt:=(BQ hok (List.getElem?_eq_getElem hi)).1 e.on (Ie he hb)
   cases hg:listed.getD e.on false with
   | true=>rfl
   | false=>exact absurd ⟨e.on,hlt,hg⟩ h
def Gj(listed:Array Bool):Nat:=(listed.toList.filter (!·)).length
theorem IK{listed:Array Bool}{i:Nat}(hi:i<listed.size)(h:listed.getD i false=false):Gj (listed.setIfInBounds i true)+1=Gj listed:=by
 obtain ⟨l⟩:=listed
 simp only [Gj,List.setIfInBounds_toArray,List.size_toArray] at *
 have h':l[i]? = some false:=by
  simp [hi] at h
  simp [List.getElem?_eq_getElem hi,h]
 clear h
 induction l generalizing i with
 | nil=>simp at hi
 | cons b l ih=>
  cases i with
  | zero=>
   simp at h'
   subst h'
   simp
  | succ i=>
   simp only [List.set_cons_succ]
   have:=ih (i:=i) (by simpa using hi) (by simpa using h')
   cases b<;>simp_all
theorem Mo{listed:Array Bool}{i:Nat}(hi:i<listed.size)(h:listed.getD i false=false):0<Gj listed:=by
 have:=IK hi h
 omega
theorem Hn(hok:CG L sh=true){listed:Array Bool}(hsz:listed.size=L.length)(hc:∀j o,L[j]? = some o->listed.getD j false=true->∀e∈BT o,listed.getD e false=true)
  {t:Nat} {o:Oper} (ht:sh.length<=t) (ho:L[t]? = some o) (hed:∀e∈BT o,listed.getD e false=true):∀j,j<t->listed.getD j false=true:=by
 induction t using Nat.strongRecOn generalizing o with
 | _ t ih=>
  intro j hj
  obtain ⟨hlt,_,htl⟩:=BQ hok ho
  have h1:=htl (List.getElem?_eq_none_iff.2 ht)
  have h2:=List.all_eq_true.1 h1 j (List.mem_range.2 hj)
  obtain ⟨e,he,he2⟩:=List.any_eq_true.1 h2
  simp only [Bool.or_eq_true,beq_iff_eq] at he2
  rcases he2 with rfl | he2
  .exact hed e he
  .have het:=hlt e he
   have hel:e<L.length:=by have:=(List.getElem?_eq_some_iff.1 ho).1;omega
   have hoe:L[e]? = some L[e]:=List.getElem?_eq_getElem hel
   split at he2
   .rename_i hen
    have hy:sh[e]? = some sh[e]:=List.getElem?_eq_getElem hen
    exact CO hok hc e _ _ hy hoe (hc e _ hoe (hed e he)) j (by simpa [Cn,hy] using he2)
   .rename_i hen
    exact ih e het (by omega) hoe (hc e _ hoe (hed e he)) j (by simpa using he2)
theorem Jb(hok:CG L sh=true){Q:Exit->Act->World->Prop}:∀(f m:Nat) (listed:Array Bool) (a':Act) (w':World),sh.length<=m->f+m=L.length->listed.size=L.length ->
  (∀j,j<m->listed.getD j false=true)->(∀j,m<=j->listed.getD j false=false)->wpList P L.toArray Q (L.drop m) a' w'->wpAny P .any L.toArray Q f listed a' w':=by
 intro f
 induction f with
 | zero=>
  intro m listed a' w' hm hf hsz h1 h2 h
  have hml:L.length<=m:=by omega
  rw [List.drop_eq_nil_of_le hml] at h
  refine ⟨?_,h⟩
  cases hr:Region.ready .any L.toArray listed with
  | nil=>rfl
  | cons x xs=>
   obtain ⟨hx,o,ho,_⟩:=Jm hok hsz (i:=x) (by rw [hr];simp)
   have:=h1 x (by have:=(List.getElem?_eq_some_iff.1 ho).1;omega)
   rw [hx] at this;cases this
 | succ f ih=>
  intro m listed a' w' hm hf hsz h1 h2 h
  have hml:m<L.length:=by omega
  refine ⟨λh0=>?_,λi hi=>?_⟩
  .obtain ⟨k,_,hk⟩:=HI hok hsz m hml (h2 m (Nat.le_refl _))
   rw [h0] at hk;cases hk
  .obtain ⟨hun,o,ho,hed⟩:=Jm hok hsz hi
   have hil:=(List.getElem?_eq_some_iff.1 ho).1
   have him:m<=i:=by
    rcases Nat.lt_or_ge i m with hlt | hge
    .have:=h1 i hlt;rw [hun] at this;cases this
    .exact hge
   have hcl:∀j oj,L[j]? = some oj->listed.getD j false=true->∀e∈BT oj,listed.getD e false=true:=λj oj hoj hl e he=>by
    have hjm:j<m:=by
     rcases Nat.lt_or_ge j m with hlt | hge
     .exact hlt
     .rw [h2 j hge] at hl;cases hl
    exact h1 e (Nat.lt_trans ((BQ hok hoj).1 e he) hjm)
   have hieq:i=m:=by
    rcases Nat.lt_or_ge m i with hlt | hge
    .have:=Hn hok hsz hcl (by omega) ho hed m hlt
     rw [h2 m (Nat.le_refl _)] at this;cases this
    .omega
   subst hieq
   rw [List.drop_eq_getElem_cons hml] at h
   have heq:L[i]=o:=by rw [List.getElem?_eq_getElem hml] at ho;exact Option.some.inj ho
   rw [heq] at h
   have hK:∀a w,wpList P L.toArray Q (L.drop (i+1)) a w->wpAny P .any L.toArray Q f (listed.setIfInBounds i true) a w:=λa w hw=>
    ih (i + 1) _ a w (by omega) (by omega) (by simpa using hsz) (fun j hj => by
     by_cases hji:j=i
     .subst hji;simp [hsz,hml]
     .exact getD_set_true (h1 j (by omega))) (λj hj=>by rw [getD_set_ne false (by omega)];exact h2 j (by omega)) hw
   unfold wpOp
   have ho2:L.toArray[i]? = some o:=by simpa using ho
   rw [ho2]
   simp only [wpList] at h ⊢
   split
   .rename_i hw;rw [if_pos hw] at h;exact h.imp (Oper.wp_mono hK) id
   .rename_i hw;rw [if_neg hw] at h;exact hK _ _ h
theorem Fy{g:Nat->Value}:∀(l:List Oper) (i:Nat) (b:Act),(∀(j k:Nat) (o o':Oper) (d:Nat),l[j]? = some o->l[k]? = some o'->o.dst=some d->o'.dst=some d->j=k)->(∀o∈l,∀d,o.dst=some d->d<b.tmps.size) ->
  (CM g l i b).tmps.size=b.tmps.size/\(CM g l i b).defers=b.defers /\
  (∀(j:Nat) (o:Oper) (d:Nat),l[j]? = some o->o.dst=some d->(CM g l i b).tmps[d]? = some (g (i+j))) /\
  (∀t:Nat,(∀(j:Nat) (o:Oper),l[j]? = some o->o.dst≠some t)->(CM g l i b).tmps[t]? = b.tmps[t]?)
 | [],i,b,_,_=>⟨rfl,rfl,λj o d h=>by simp at h,λt _=>rfl⟩
 | o::l,i,b,hd,hb=>by
  have hs:(b.put o.dst (g i)).tmps.size=b.tmps.size:=by unfold Act.put;split<;>simp
  obtain ⟨h1,h2,h3,h4⟩:=Fy (g:=g) l (i+1) (b.put o.dst (g i)) (λj k o1 o2 d hj hk e1 e2=>by
   have:=hd (j+1) (k+1) o1 o2 d (by simpa using hj) (by simpa using hk) e1 e2
   omega) (λo' ho' d hd'=>by rw [hs];exact hb o' (by simp [ho']) d hd')
  refine ⟨h1.trans hs,h2.trans (by unfold Act.put;split<;>rfl),λj o' d hj hdj=>?_,λt ht=>?_⟩
  .cases j with
   | zero=>
    simp at hj
    subst hj
    show (CM g l (i+1) (b.put o.dst (g i))).tmps[d]? = _
    rw [h4 d λk o2 hk e=>by
     have:=hd 0 (k+1) o o2 d rfl (by simpa using hk) hdj e
     omega]
    have:=hb o (by simp) d hdj
    simp [Act.put,hdj,this]
   | succ j=>
    have:=h3 j o' d (by simpa using hj) hdj
    rw [show i+(j+1)=i+1+j by omega]
    exact this
  .show (CM g l (i+1) (b.put o.dst (g i))).tmps[t]? = _
   rw [h4 t λk o2 hk=>ht (k+1) o2 (by simpa using hk)]
   have h0:=ht 0 o rfl
   unfold Act.put
   split
   .rename_i d' hd'
    have:d'≠t:=λe=>h0 (by rw [hd',e])
    simp [Array.getElem?_setIfInBounds_ne this]
   .rfl
theorem Lm{x y:Act}(h:x.tmps=y.tmps)(h':x.defers=y.defers):x=y:=by
 cases x;cases y;simp_all
theorem head_run(hok:CG L sh=true)(hd:EO L sh.length a.tmps.size=true)
  (hstab:∀F∈Rs,∀vs w1 w2,Ext w1 w2->F vs w1->F vs w2) (hstep:StepsAt P sh Rs a w0 0 L sh Rs) {Q:Exit->Act->World->Prop}
  (hend:∀g w',Ext w0 w'->(∀(j:Nat) (y:Shape) (F:Fact),sh[j]? = some y->Rs[j]? = some F->F (y.deps.map g) w')->wpList P L.toArray Q (L.drop sh.length) (CM g (L.take sh.length) 0 a) w') :
  ∀(f:Nat) (listed:Array Bool) (g:Nat->Value) (a':Act) (w':World),Gj listed=f->HInv L sh Rs a w0 listed g a' w'->wpAny P .any L.toArray Q f listed a' w':=by
 obtain ⟨hlen,hat⟩:=hstep.at
 intro f
 induction f with
 | zero=>
  intro listed g a' w' hf inv
  have hall:∀j,j<L.length->listed.getD j false=true:=λj hj=>by
   cases hg:listed.getD j false with
   | true=>rfl
   | false=>have:=Mo (by rw [inv.size];exact hj) hg;omega
  refine Jb hok 0 L.length listed a' w' (Cp hok) (by omega) inv.size hall (λj hj=>by simp [inv.size,hj]) ?_
  have hsl:sh.length=L.length:=by
   have:=Cp hok
   rcases Nat.lt_or_ge sh.length L.length with hlt | hge
   .have h1:=hall sh.length hlt
    rw [inv.tail _ (Nat.le_refl _)] at h1;cases h1
   .omega
  have:=hend g w' inv.ext λj y F hy hF=>inv.facts j y F hy hF (hall j (by have:=Db hy;omega))
  rw [hsl] at this
  have hpa:CM g (L.take L.length) 0 a=a':=by
   obtain ⟨p1,p2,p3,p4⟩:=Fy (g:=g) (L.take L.length) 0 a (λj k o o' d hj hk e1 e2=>by
    simp at hj hk
    exact Ee hok (by have:=(List.getElem?_eq_some_iff.1 hj).1;omega) (by have:=(List.getElem?_eq_some_iff.1 hk).1;omega) hj hk e1 e2) (λo ho d hdo=>by
    rw [<-hsl] at ho
    have h2:=List.all_eq_true.1 hd o ho
    simp only [hdo,decide_eq_true_eq] at h2
    exact h2)
   refine Lm (Array.ext_getElem? λt=>?_) (p2.trans inv.adef.symm)
   by_cases ht:∃(j:Nat) (o:Oper),L[j]? = some o/\o.dst=some t
   .obtain ⟨j,o,hj,hdo⟩:=ht
    rw [p3 j o t (by simpa using hj) hdo,inv.a1 j o t (by have:=(List.getElem?_eq_some_iff.1 hj).1;omega) hj (hall j (List.getElem?_eq_some_iff.1 hj).1) hdo]
    simp
   .rw [p4 t λj o hj e=>ht ⟨j,o,by simpa using hj,e⟩,inv.a2 t λj o _ hj _ e=>ht ⟨j,o,hj,e⟩]
  rw [hpa] at this
  exact this
 | succ f ih=>
  intro listed g a' w' hf inv
  by_cases hdone:∀j,j<sh.length->listed.getD j false=true
  .have hfl:f+1+sh.length=L.length:=by
    have key:∀(l:List Bool) (n:Nat),n<=l.length->(∀j,j<n->l[j]? = some true)->(∀j,n<=j->j<l.length->l[j]? = some false)->(l.filter (!·)).length+n=l.length:=by
     intro l
     induction l with
     | nil=>intro n hn _ _;simp at hn;simp [hn]
     | cons b l ihl=>
      intro n hn h1 h2
      cases n with
      | zero=>
       have hb:=h2 0 (Nat.le_refl _) (by simp)
       simp at hb
       subst hb
       have:=ihl 0 (by omega) (λj hj=>by omega) (λj _ hj=>by simpa using h2 (j+1) (by omega) (by simpa using hj))
       simp at this ⊢
       omega
      | succ n=>
       have hb:=h1 0 (by omega)
       simp at hb
       subst hb
       have:=ihl n (by simpa using hn) (λj hj=>by simpa using h1 (j+1) (by omega)) (λj hj1 hj2=>by simpa using h2 (j+1) (by omega) (by simpa using hj2))
       simp
       omega
    have := key listed.toList sh.length (by simpa [inv.size] using Cp hok) (fun j hj => by
      have h1:=hdone j hj
      have hjl:j<listed.size:=by rw [inv.size];have:=Cp hok;omega
      simp [hjl] at h1
      simp [hjl,h1]) (λj hj1 hj2=>by
      have h1:=inv.tail j hj1
      have hjl:j<listed.size:=by simpa using hj2
      simp [hjl] at h1
      simp [hjl,h1])
    have e1:(listed.toList.filter (!·)).length=f+1:=hf
    rw [e1] at this
    simpa [inv.size] using this
   refine Jb hok (f+1) sh.length listed a' w' (Nat.le_refl _) hfl inv.size hdone inv.tail ?_
   have:=hend g w' inv.ext λj y F hy hF=>inv.facts j y F hy hF (hdone j (Db hy))
   have hpa:CM g (L.take sh.length) 0 a=a':=by
    have hget:∀j o,(L.take sh.length)[j]? = some o->j<sh.length/\L[j]? = some o:=λj o h=>by
     rw [List.getElem?_take] at h
     split at h
     .exact ⟨by assumption,h⟩
     .cases h
    obtain ⟨p1,p2,p3,p4⟩:=Fy (g:=g) (L.take sh.length) 0 a (λj k o o' d hj hk e1 e2=>by
     obtain ⟨hj1,hj2⟩:=hget j o hj
     obtain ⟨hk1,hk2⟩:=hget k o' hk
     exact Ee hok hj1 hk1 hj2 hk2 e1 e2) (λo ho d hdo=>by
     have h2:=List.all_eq_true.1 hd o ho
     simp only [hdo,decide_eq_true_eq] at h2
     exact h2)
    refine Lm (Array.ext_getElem? λt=>?_) (p2.trans inv.adef.symm)
    by_cases ht:∃(j:Nat) (o:Oper),j<sh.length/\L[j]? = some o/\o.dst=some t
    .obtain ⟨j,o,hjn,hj,hdo⟩:=ht
     rw [p3 j o t (by rw [List.getElem?_take,if_pos hjn];exact hj) hdo,inv.a1 j o t hjn hj (hdone j hjn) hdo]
     simp
    .rw [p4 t λj o hj e=>ht ⟨j,o,(hget j o hj).1,(hget j o hj).2,e⟩,inv.a2 t λj o hjn hj _ e=>ht ⟨j,o,hjn,hj,e⟩]
   rw [hpa] at this
   exact this
  .have hex:∃j,j<sh.length/\listed.getD j false=false:=Classical.byContradiction λhno=>hdone λj hj=>by
    cases hg:listed.getD j false with
    | true=>rfl
    | false=>exact absurd ⟨j,hj,hg⟩ hno
   obtain ⟨j0,hj0,hu0⟩:=hex
   refine ⟨λh0=>?_,λi hi=>?_⟩
   .obtain ⟨k,_,hk⟩:=HI hok inv.size j0 (Nat.lt_of_lt_of_le hj0 (Cp hok)) hu0
    rw [h0] at hk;cases hk
   .obtain ⟨hun,o,ho,hed⟩:=Jm hok inv.size hi
    have hin:i<sh.length:=by
     rcases Nat.lt_or_ge i sh.length with hlt | hge
     .exact hlt
     .have:=Hn hok inv.size inv.closed hge ho hed j0 (by omega)
      rw [hu0] at this;cases this
    have hx:sh[i]? = some sh[i]:=List.getElem?_eq_getElem hin
    obtain ⟨F,hF,hst⟩:=hat i o _ ho hx
    rw [Nat.zero_add] at hst
    have hil:i<listed.size:=by rw [inv.size];exact (List.getElem?_eq_some_iff.1 ho).1
    have hno:=(BQ hok ho).2.1 _ hx
    simp only [Dt,Bool.and_eq_true] at hno
    obtain ⟨hs1,hs2⟩:=hst g w' (Lc a g sh[i].env) inv.ext (λx hx' j hj y G hy hG=>by
      have:x=sh[i]:=Option.some.inj (hx'.symm.trans hx)
      subst this
      exact inv.facts j y G hy hG (CO hok inv.closed i _ o hx ho hed j hj))
     (Mr λp hp=>by
      obtain ⟨h1,h2,o',ho',hd'⟩:=EL hok hx ho hp
      cases hfd:sh[i].env.find? (λq=>q.1==p.1) with
      | none=>have:=List.find?_eq_none.1 hfd p hp;simp at this
      | some q=>
       have hq:=List.mem_of_find?_eq_some hfd
       have hqp:q.1=p.1:=by simpa using List.find?_some hfd
       obtain ⟨_,h4,o2,ho2,hd2⟩:=EL hok hx ho hq
       rw [hqp] at hd2
       have:=Ee hok h4 h2 ho2 ho' hd2 hd'
       simp only [Lc,hfd,this])
     (λt ht=>by
      have:sh[i].env.find? (λq=>q.1==t)=none:=List.find?_eq_none.2 λp hp=>by simpa using ht p hp
      simp only [Lc,this])
     (λ_=>rfl) (λ_=>rfl)
    have hwant:=wanted_of hok inv ho hx hed
    have hfs:∀v w2 b,(a'.put o.dst v)=b->Ext w' w2->F (sh[i].deps.map (upd g i v)) w2->wpAny P .any L.toArray Q f (listed.setIfInBounds i true) b w2:=λv w2 b hb he hf'=>by
     subst hb
     refine ih _ (upd g i v) _ _ ?_ (step_inv hok hd hstab inv ho hx hF hun hed he hf')
     have:=IK hil hun
     omega
    unfold wpOp
    have ho2:L.toArray[i]? = some o:=by simpa using ho
    rw [ho2]
    show if Region.wanted o (yielded L.toArray a'.tmps)=true then _ else _
    rw [hwant]
    split
    .rename_i hw
     exact .inl (opStep_wp hno.2 (eval_operands hok inv ho hx hun hed) (hs1 hw) λv w2 ⟨he,hf'⟩=>hfs v w2 _ rfl he hf')
    .rename_i hw
     exact hfs undef w' _ rfl (Ext.refl _) (hs2 (by simpa using hw))
theorem wp_region_ext{id:Nat}{L:List Oper}{Q:Exit->Act->World->Prop}{a:Act}{w:World}(hm:P.follows .mixedOrders=true)(sh:List Shape)(Rs:List Fact)(hok:CG L sh=true)(hd:EO L sh.length a.tmps.size=true)
  (hstab:∀F∈Rs,∀vs w1 w2,Ext w1 w2->F vs w1->F vs w2) (hstep:StepsAt P sh Rs a w.drew 0 L sh Rs)
  (hend:∀g w',Ext w.drew w'->(∀(j:Nat) (y:Shape) (F:Fact),sh[j]? = some y->Rs[j]? = some F->F (y.deps.map g) w')->wpList P L.toArray Q (L.drop sh.length) (CM g (L.take sh.length) 0 a) w') :
  (Code.region id L.toArray true).wp P Q a w:=by
 refine wp_region_any hm ?_
 have hfz:Gj (Array.replicate L.toArray.size false)=L.toArray.size:=by simp [Gj,List.filter_replicate]
 refine head_run hok hd hstab hstep hend _ _ (λ_=>undef) a _ hfz ?_
 have hz:∀j,(Array.replicate L.toArray.size false).getD j false=false:=λj=>by
  rcases Nat.lt_or_ge j L.length with h | h
  .simp [h]
  .simp [h]
 exact ⟨by simp,(λj o _ h=>by rw [hz] at h;cases h),λt _=>hz t,rfl,rfl,(λj o d _ _ h=>by rw [hz] at h;cases h),λt _=>rfl,(λj y F _ _ h=>by rw [hz] at h;cases h),Ext.refl _⟩
end
abbrev VFact:=Value->World->Prop
def OpsKnown(Fs:List VFact)(ev:Operand->Value)(w:World):List (Nat×Nat)->Prop
 | []=>True
 | (t,j)::r=>(∀F,Fs[j]? = some F->F (ev (.tmp t)) w)/\OpsKnown Fs ev w r
def UStep(P:Program)(Fs:List VFact)(a:Act)(w0:World)(o:Oper)(env:List (Nat×Nat))(F:VFact):Prop:=
 ∀(w:World) (ev:Operand->Value),Ext w0 w->OpsKnown Fs ev w env ->
  (∀t,(∀p∈env,p.1≠t)->ev (.tmp t)=a.tmps.getD t undef)->(∀v,ev (.const v)=v)->(∀f,ev (.func f) = .func (.func f) #[] #[]) ->
  match o.guard with
  | none=>OpStep P o ev w λv w'=>Ext w w'/\F v w'
  | some (j,b)=>∀gv,(∀G,Fs[j]? = some G->G gv w)->(gv = .bool b->OpStep P o ev w λv w'=>Ext w w'/\F v w')/\(gv ≠ .bool b->F undef w)
def USteps(P:Program)(Fs:List VFact)(a:Act)(w0:World):List Oper->List (List (Nat×Nat))->List VFact->Prop
 | o::L,x::S,F::T=>UStep P Fs a w0 o x F/\USteps P Fs a w0 L S T
 | _,[],[]=>True
 | _,_,_=>False
theorem USteps.cons{P:Program}{Fs:List VFact}{a:Act}{w0:World}{o:Oper}{L:List Oper}{x:List (Nat×Nat)}{S:List (List (Nat×Nat))}{F:VFact}{T:List VFact}(h:UStep P Fs a w0 o x F)(hs:USteps P Fs a w0 L S T) :
  USteps P Fs a w0 (o::L) (x::S) (F::T):=⟨h,hs⟩
theorem USteps.nil{P:Program}{Fs:List VFact}{a:Act}{w0:World}{L:List Oper}:USteps P Fs a w0 L [] []:=by cases L<;>trivial
def DU:Nat->List (List (Nat×Nat))->List (List Nat)->List Shape
 | i,e::es,b::bs=>⟨e,b,[i]⟩::DU (i+1) es bs
 | _,_,_=>[]
theorem Ho:∀{es:List (List (Nat×Nat))} {bs:List (List Nat)} {i k:Nat} {x:Shape},(DU i es bs)[k]? = some x->x.deps=[i+k]/\es[k]? = some x.env
 | [],_,i,k,x,h=>by simp [DU] at h
 | _::_,[],i,k,x,h=>by simp [DU] at h
 | e::es,b::bs,i,0,x,h=>by
  simp only [DU,List.getElem?_cons_zero,Option.some.injEq] at h
  subst h
  exact ⟨rfl,rfl⟩
 | e::es,b::bs,i,k+1,x,h=>by
  simp only [DU,List.getElem?_cons_succ] at h
  obtain ⟨h1,h2⟩:=Ho h
  exact ⟨by rw [h1];congr 1;omega,by simpa using h2⟩
def unF(F:VFact):Fact:=λvs w=>match vs with | [v]=>F v w | _=>False
theorem usteps_steps{P:Program}{a:Act}{w0:World}{Fs:List VFact}{sh:List Shape}{L0:List Oper}(hok:CG L0 sh=true)(hsh:∀(k:Nat) (x:Shape),sh[k]? = some x->x.deps=[k]) :
  ∀{L:List Oper} {es:List (List (Nat×Nat))} {bs:List (List Nat)} {T:List VFact} {i:Nat},(∀k,L[k]? = L0[i+k]?)->(∀k,(DU i es bs)[k]? = sh[i+k]?)->es.length=bs.length->USteps P Fs a w0 L es T ->
   StepsAt P sh (Fs.map unF) a w0 i L (DU i es bs) (T.map unF)
 | L,[],[],[],i,_,_,_,_=>by cases L<;>exact trivial
 | L,[],[],_::_,i,_,_,_,h=>by cases L<;>exact h.elim
 | L,[],_::_,T,i,_,_,hl,h=>by simp at hl
 | L,_::_,[],T,i,_,_,hl,h=>by simp at hl
 | [],_::_,_::_,T,i,_,_,_,h=>by cases T<;>exact h.elim
 | _::_,_::_,_::_,[],i,_,_,_,h=>h.elim
 | o::L,e::es,b::bs,F::T,i,hL,hS,hl,h=>by
  obtain ⟨h1,h2⟩:=h
  refine ⟨?_,usteps_steps hok hsh (i:=i+1) (λk=>by
   have:=hL (k+1)
   rw [show i+1+k=i+(k+1) by omega,<-this];rfl) (λk=>by
   have:=hS (k+1)
   rw [show i+1+k=i+(k+1) by omega,<-this];rfl) (by simpa using hl) h2⟩
  intro g w ev hE hk henv hev hc hf
  have ho:L0[i]? = some o:=by have:=hL 0;simpa using this.symm
  have hx:sh[i]? = some ⟨e,b,[i]⟩:=by have:=hS 0;simpa [DU] using this.symm
  have hknown:∀j,j∈b->∀G,Fs[j]? = some G->G (g j) w:=λj hj G hG=>by
   have hjl:∃y,sh[j]? = some y:=by
    cases hy:sh[j]? with
    | some y=>exact ⟨y,rfl⟩
    | none=>
     exfalso
     have hb:=hj
     have hh:=(BQ hok ho).2.1 _ hx
     simp only [Dt,Bool.and_eq_true] at hh
     have h3:=List.all_eq_true.1 hh.1.1.1.1.1 j hb
     obtain ⟨e',he',he2⟩:=List.any_eq_true.1 h3
     have hlt:=(BQ hok ho).1 e' he'
     simp only [Bool.or_eq_true,beq_iff_eq] at he2
     have hil:=Db hx
     rw [List.getElem?_eq_none_iff] at hy
     rcases he2 with rfl | he2
     .omega
     .
      have key:∀(n:Nat) (y:Shape) (oy:Oper),sh[n]? = some y->L0[n]? = some oy->∀m∈y.bef,m<n:=by
       intro n
       induction n using Nat.strongRecOn with
       | _ n ih=>
        intro y oy hy hoy m hm
        have hh':=(BQ hok hoy).2.1 y hy
        simp only [Dt,Bool.and_eq_true] at hh'
        have h4:=List.all_eq_true.1 hh'.1.1.1.1.1 m hm
        obtain ⟨e2,he2,he3⟩:=List.any_eq_true.1 h4
        have hlt2:=(BQ hok hoy).1 e2 he2
        simp only [Bool.or_eq_true,beq_iff_eq] at he3
        rcases he3 with rfl | he3
        .exact hlt2
        .cases hy2:sh[e2]? with
         | none=>simp [Cn,hy2] at he3
         | some y2=>
          have hel:e2<L0.length:=Nat.lt_of_lt_of_le (Db hy2) (Cp hok)
          have:=ih e2 hlt2 y2 _ hy2 (List.getElem?_eq_getElem hel) m (by simpa [Cn,hy2] using he3)
          omega
      have:=key i _ o hx ho j hj
      omega
   obtain ⟨y,hy⟩:=hjl
   have:=hk _ hx j hj y (unF G) hy (by rw [List.getElem?_map,hG];rfl)
   rw [hsh j y hy] at this
   exact this
  have hops:OpsKnown Fs ev w e:=by
   have hsub:∀p∈e,p.2∈b:=λp hp=>(EL hok hx ho hp).1
   have henv':Ox ev g e:=henv
   clear hx hev h1 henv hS hl
   induction e with
   | nil=>trivial
   | cons p e ih=>
    obtain ⟨t,j⟩:=p
    obtain ⟨q1,q2⟩:=henv'
    exact ⟨λG hG=>by rw [q1];exact hknown j (hsub (t,j) (by simp)) G hG,ih (λp hp=>hsub p (by simp [hp])) q2⟩
  have:=h1 w ev hE hops hev hc hf
  have hmap:∀v,unF F ([i].map (upd g i v))=F v:=λv=>by funext w;simp [unF,upd]
  cases hg:o.guard with
  | none=>
   rw [hg] at this
   refine ⟨λ_=>?_,λhw=>by simp [Dv,hg] at hw⟩
   simp only [hmap]
   exact this
  | some jb=>
   obtain ⟨j,c⟩:=jb
   rw [hg] at this
   have hjb:j∈b:=by
    have hh:=(BQ hok ho).2.1 _ hx
    simp only [Dt,Bool.and_eq_true] at hh
    have h3:=hh.1.2
    rw [hg] at h3
    simp only [Bool.and_eq_true] at h3
    simpa using h3.1.1
   obtain ⟨t1,t2⟩:=this (g j) (λG hG=>hknown j hjb G hG)
   refine ⟨λhw=>?_,λhw=>?_⟩
   .simp only [hmap]
    refine t1 ?_
    simp only [Dv,hg] at hw
    split at hw
    .rename_i c' hc';rw [hc'];congr 1;simpa using hw
    .cases hw
   .simp only [hmap]
    refine t2 λe'=>?_
    simp [Dv,hg,e'] at hw
theorem wp_region_u{P:Program}{id:Nat}{L:List Oper}{Q:Exit->Act->World->Prop}{a:Act}{w:World}(hm:P.follows .mixedOrders=true)(es:List (List (Nat×Nat)))(bs:List (List Nat))(Fs:List VFact)
  (hlen:(es.length==bs.length&&es.length==Fs.length)=true) (hok:CG L (DU 0 es bs)=true) (hd:EO L es.length a.tmps.size=true)
  (hstab:∀F∈Fs,∀v w1 w2,Ext w1 w2->F v w1->F v w2) (hstep:USteps P Fs a w.drew L es Fs)
  (hend:∀(g:Nat->Value) (w':World),Ext w.drew w'->(∀(j:Nat) (F:VFact),Fs[j]? = some F->F (g j) w')->wpList P L.toArray Q (L.drop es.length) (CM g (L.take es.length) 0 a) w') :
  (Code.region id L.toArray true).wp P Q a w:=by
 simp only [Bool.and_eq_true,beq_iff_eq] at hlen
 have hshl:∀(es:List (List (Nat×Nat))) (bs:List (List Nat)) (i:Nat),es.length=bs.length->(DU i es bs).length=es.length:=by
  intro es
  induction es with
  | nil=>intro bs i _;cases bs<;>rfl
  | cons e es ih=>
   intro bs i h
   cases bs with
   | nil=>simp at h
   | cons b bs=>simp [DU,ih bs (i+1) (by simpa using h)]
 have hl:=hshl es bs 0 hlen.1
 refine wp_region_ext hm (DU 0 es bs) (Fs.map unF) hok (by rw [hl];exact hd) ?_ ?_ ?_
 .intro F hF vs w1 w2 he h
  obtain ⟨G,hG,rfl⟩:=List.mem_map.1 hF
  unfold unF at *
  split at h
  .rename_i v;exact hstab G hG v w1 w2 he h
  .exact h.elim
 .exact usteps_steps hok (λk x hx=>by have:=(Ho hx).1;rwa [Nat.zero_add] at this) (λk=>by rw [Nat.zero_add]) (λk=>by rw [Nat.zero_add]) hlen.1 hstep
 .intro g w' hE hf
  rw [hl]
  refine hend g w' hE λj F hF=>?_
  have hjl:j<(DU 0 es bs).length:=by
   rw [hl]
   have:=(List.getElem?_eq_some_iff.1 hF).1
   omega
  have hy:(DU 0 es bs)[j]? = some (DU 0 es bs)[j]:=List.getElem?_eq_getElem hjl
  have:=hf j _ (unF F) hy (by rw [List.getElem?_map,hF];rfl)
  rw [(Ho hy).1] at this
  simpa [unF] using this
def Stab(F:VFact):Prop:=∀v w1 w2,Ext w1 w2->F v w1->F v w2
def StabAll:List VFact->Prop
 | []=>True
 | F::r=>Stab F/\StabAll r
theorem StabAll.cons{F:VFact}{r:List VFact}(h:Stab F)(hs:StabAll r):StabAll (F::r):=⟨h,hs⟩
theorem StabAll.nil:StabAll []:=trivial
theorem StabAll.mem:∀{Fs:List VFact},StabAll Fs->∀F∈Fs,Stab F
 | [],_,F,h=>by cases h
 | G::r,h,F,hF=>by
  rcases List.mem_cons.1 hF with rfl | hF
  .exact h.1
  .exact StabAll.mem h.2 F hF
theorem Stab.eq(u:Value):Stab (λv _=>v=u):=λ_ _ _ _ h=>h
theorem Ag{P:Program}{o:Oper}{ev:Operand->Value}{w:World}{F:VFact}{v:Value}(h:(execOp ev o).run P w = .ok (.value v) w)(hF:F v w):OpStep P o ev w λv w'=>Ext w w'/\F v w':=by
 unfold OpStep
 rw [h]
 exact ⟨Ext.refl _,hF⟩
theorem Eg{P:Program}{o:Oper}{ev:Operand->Value}{w w':World}{F:VFact}{v:Value}(h:(execOp ev o).run P w = .ok (.value v) w')(hE:Ext w w')(hF:F v w'):OpStep P o ev w λv w'=>Ext w w'/\F v w':=by
 unfold OpStep
 rw [h]
 exact ⟨hE,hF⟩
theorem Aw{P:Program}{o:Oper}{ev:Operand->Value}{w:World}{F:VFact}{f:FuncId}{args:Array Value}{R:Ending->World->Prop}(h:(execOp ev o).run P w = .ok (.enter f args) w)(hc:Calls P f args w R)
  (hR:∀e w',R e w'->∃v,e = .returned v/\Ext w w'/\F v w'):OpStep P o ev w λv w'=>Ext w w'/\F v w':=by
 unfold OpStep
 rw [h]
 exact hc.mono hR
theorem wp_region_v{P:Program}{id:Nat}{L:List Oper}{Q:Exit->Act->World->Prop}{a:Act}{w:World}(hm:P.follows .mixedOrders=true)(es:List (List (Nat×Nat)))(bs:List (List Nat))(Fs:List VFact)
  (hlen:(es.length==bs.length&&es.length==Fs.length)=true) (hok:CG L (DU 0 es bs)=true) (hd:EO L es.length a.tmps.size=true) (stab:StabAll Fs) (steps:USteps P Fs a w.drew L es Fs)
  (fin:∀(g:Nat->Value) (w':World),Ext w.drew w'->(∀(j:Nat) (F:VFact),Fs[j]? = some F->F (g j) w')->wpList P L.toArray Q (L.drop es.length) (CM g (L.take es.length) 0 a) w') :
  (Code.region id L.toArray true).wp P Q a w:=
 wp_region_u hm es bs Fs hlen hok hd (λF hF=>stab.mem F hF) steps fin
def BB:Nat:=4294967296
theorem BP:0<BB:=by decide
theorem Bb:BB=4294967296:=rfl
theorem Fk:1<BB:=by decide
def val:List Nat->Nat
 | []=>0
 | x::l=>x+BB*val l
def Am(n:Nat):List Nat:=if h:n=0 then [] else (n%BB)::Am (n/BB)
termination_by n
decreasing_by exact Nat.div_lt_self (Nat.pos_of_ne_zero h) (by decide)
def Bn(l:List Nat):Prop:=∀x∈l,x<BB
theorem Bo:Am 0=[]:=by rw [Am];simp
theorem DG{n:Nat}(h:n≠0):Am n=(n%BB)::Am (n/BB):=by rw [Am];simp [h]
theorem Ao(n:Nat):val (Am n)=n:=by
 induction n using Nat.strongRecOn with
 | _ n ih=>
  by_cases h:n=0
  .subst h;rw [Bo];rfl
  .rw [DG h]
   show n%BB+BB*val (Am (n/BB))=n
   rw [ih (n/BB) (Nat.div_lt_self (Nat.pos_of_ne_zero h) (by decide))]
   exact Nat.mod_add_div n BB
theorem Bk(n:Nat):Bn (Am n):=by
 induction n using Nat.strongRecOn with
 | _ n ih=>
  by_cases h:n=0
  .subst h;rw [Bo];intro x hx;cases hx
  .rw [DG h]
   intro x hx
   rcases List.mem_cons.1 hx with rfl | hx
   .exact Nat.mod_lt _ BP
   .exact ih (n/BB) (Nat.div_lt_self (Nat.pos_of_ne_zero h) (by decide)) x hx
theorem Fr(l m:List Nat):val (l++m)=val l+BB^l.length*val m:=by
 induction l with
 | nil=>simp [val]
 | cons x l ih=>
  simp only [List.cons_append,val,ih,List.length_cons,Nat.pow_succ]
  rw [Nat.mul_add,Nat.add_assoc,Nat.mul_comm (BB^l.length) BB,Nat.mul_assoc]
theorem CI{l:List Nat}(h:Bn l):val l<BB^l.length:=by
 induction l with
 | nil=>simp [val]
 | cons x l ih=>
  have h1:=h x (by simp)
  have h2:=ih λy hy=>h y (by simp [hy])
  simp only [val,List.length_cons,Nat.pow_succ]
  have h3:BB*(val l+1)<=BB*BB^l.length:=Nat.mul_le_mul_left _ h2
  rw [Nat.mul_add,Nat.mul_comm BB (BB^l.length)] at h3
  omega
def CL:List Nat->List Nat
 | []=>[]
 | x::l=>match CL l with
  | []=>if x=0 then [] else [x]
  | y::r=>x::y::r
theorem Vb(l:List Nat):val (CL l)=val l:=by
 induction l with
 | nil=>rfl
 | cons x l ih=>
  simp only [CL]
  split
  .rename_i h
   rw [h] at ih
   have ih:val l=0:=by rw [<-ih];rfl
   split
   .subst x;simp [val,ih]
   .simp [val,ih]
  .rename_i y r h
   rw [h] at ih
   show x+BB*val (y::r)=x+BB*val l
   rw [ih]
theorem AM{l:List Nat}(h:Bn l):CL l=Am (val l):=by
 induction l with
 | nil=>simp [CL,val,Bo]
 | cons x l ih=>
  have hx:=h x (by simp)
  have ih:=ih λy hy=>h y (by simp [hy])
  have hd:(x+BB*val l)/BB=val l:=by rw [Nat.add_mul_div_left _ _ BP,Nat.div_eq_of_lt hx];omega
  have hm:(x+BB*val l)%BB=x:=by rw [Nat.add_mul_mod_self_left,Nat.mod_eq_of_lt hx]
  simp only [CL,val]
  split
  .rename_i h0
   have hv:val l=0:=by rw [<-Vb,h0];rfl
   split
   .subst x;simp [hv,Bo]
   .rename_i hne
    rw [DG (by omega),hd,hm,hv,Bo]
  .rename_i y r h0
   have hne:x+BB*val l≠0:=by
    intro e
    have hv:val l=0:=by
     have:=BP
     rcases Nat.eq_zero_or_pos (val l) with h1 | h1
     .exact h1
     .have:=Nat.mul_pos this h1;omega
    rw [hv,Bo,h0] at ih
    cases ih
   rw [DG hne,hd,hm,<-ih,h0]
theorem KU(l:List Nat):CL (l++[0])=CL l:=by
 induction l with
 | nil=>simp [CL]
 | cons x l ih=>simp only [List.cons_append,CL,ih]
theorem Si{l:List Nat}{x:Nat}(h:x≠0):CL (l++[x])=l++[x]:=by
 induction l with
 | nil=>simp [CL,h]
 | cons y l ih=>
  simp only [List.cons_append,CL,ih]
  cases l<;>simp
theorem EX(l:List Nat):(CL l).length<=l.length:=by
 induction l with
 | nil=>simp [CL]
 | cons x l ih=>
  simp only [CL]
  split
  .split<;>simp
  .rename_i y r h;rw [h] at ih;simpa using ih
theorem Lt{l:List Nat}{k:Nat}(hk:k<l.length)(h0:l[k]=0):CL (l.take (k+1))=CL (l.take k):=by
 rw [List.take_succ_eq_append_getElem hk,h0,KU]
theorem In{l:List Nat}{k:Nat}(hk:k<l.length)(h0:l[k]≠0):CL (l.take (k+1))=l.take (k+1):=by
 rw [List.take_succ_eq_append_getElem hk,Si h0]
def Words(w:World)(v:Value)(l:List Nat):Prop:=
 ∃(A:Option Addr) (c:Nat),v = .slice A l.length c/\l.length<=c/\c<=9223372036854775807/\Bn l /\
  (0<l.length->∃(b o:Nat) (cs:Array Value) (fz:Nat×Nat),A=some ⟨b,o,none⟩/\w.heap[b]? = some (.cells cs 108 fz)/\∀i,(hi:i<l.length)->cs[o+i]? = some (.int .u32 (l[i]:Nat)))
theorem AU{w:World}{b:Nat}{o:Obj}(h:w.heap[b]? = some o):b<w.heap.size:=(Array.getElem?_eq_some_iff.1 h).1
theorem Words.ext{w w':World}{v:Value}{l:List Nat}(h:Words w v l)(he:Ext w w'):Words w' v l:=by
 obtain ⟨A,c,hv,hc,hm,hs,hx⟩:=h
 refine ⟨A,c,hv,hc,hm,hs,λhl=>?_⟩
 obtain ⟨b,o,cs,fz,hA,hb,hi⟩:=hx hl
 exact ⟨b,o,cs,fz,hA,(he.block (AU hb)).trans hb,hi⟩
theorem Words.small{w:World}{v:Value}{l:List Nat}(h:Words w v l):Bn l:=by
 obtain ⟨_,_,_,_,_,hs,_⟩:=h
 exact hs
theorem Words.nil(w:World)(A:Option Addr)(c:Nat)(hc:c<=9223372036854775807):Words w (.slice A 0 c) []:=⟨A,c,rfl,Nat.zero_le _,hc,(λx hx=>by cases hx),(λh=>by cases h)⟩
theorem BK{w:World}{b o:Nat}{cs:Array Value}{t:TypeId}{fz:Nat×Nat}(h:w.heap[b]? = some (.cells cs t fz)):w.cell? ⟨b,o,none⟩=cs[o]?:=by simp [World.cell?,h]
theorem Words.open_{w:World}{v:Value}{l:List Nat}(h:Words w v l):∃(A:Option Addr) (c:Nat),v = .slice A l.length c/\l.length<=c/\c<=9223372036854775807 /\
  (0<l.length->∃(b o:Nat),A=some ⟨b,o,none⟩/\b<w.heap.size/\∀i,i<l.length->w.cell? ⟨b,o+i,none⟩=some (.int .u32 (l.getD i 0:Nat))):=by
 obtain ⟨A,c,hv,hc,hm,hs,hx⟩:=h
 refine ⟨A,c,hv,hc,hm,λhl=>?_⟩
 obtain ⟨b,o,cs,fz,hA,hb,hi⟩:=hx hl
 exact ⟨b,o,hA,AU hb,λi hil=>by rw [BK hb,hi i hil];simp [hil]⟩
theorem Words.take{w:World}{A:Option Addr}{c:Nat}{l:List Nat}(h:Words w (.slice A l.length c) l){k:Nat}(hk:k<=l.length):Words w (.slice A k c) (l.take k):=by
 obtain ⟨A',c',hv,hc,hm,hs,hx⟩:=h
 injection hv with h1 _ h3
 subst h1;subst h3
 have hl:(l.take k).length=k:=by simp [hk]
 refine ⟨A,c,by rw [hl],by omega,hm,λx hx=>hs x (List.mem_of_mem_take hx),λhp=>?_⟩
 obtain ⟨b,o,cs,fz,hA,hb,hi⟩:=hx (by omega)
 exact ⟨b,o,cs,fz,hA,hb,λi hi'=>by rw [hi i (by omega)];simp⟩
def wv(l:List Nat):Array Value:=(l.map λx=>Value.int .u32 (x:Nat)).toArray
theorem A0a(l:List Nat):(wv l).size=l.length:=by simp [wv]
theorem Xy{l:List Nat}{i:Nat}(h:i<l.length):(wv l)[i]? = some (.int .u32 (l[i]:Nat)):=by simp [wv,h]
theorem Ch{l:List Nat}{i:Nat}(h:i<l.length):(wv l)[i]? = some (.int .u32 (l.getD i 0:Nat)):=by simp [wv,h]
theorem EQ(l:List Nat)(i x:Nat):(wv l).setIfInBounds i (.int .u32 (x:Nat))=wv (l.set i x):=by simp [wv,List.map_set]
def Blk(w:World)(g:Nat)(t:TypeId)(cs:Array Value):Prop:=w.heap[g]? = some (.cells cs t (0,0))
theorem Blk.lt{w:World}{g:Nat}{t:TypeId}{cs:Array Value}(h:Blk w g t cs):g<w.heap.size:=AU h
theorem Blk.cell{w:World}{g:Nat}{t:TypeId}{cs:Array Value}(h:Blk w g t cs)(i:Nat):w.cell? ⟨g,i,none⟩=cs[i]?:=BK h
theorem Blk.frozen{w:World}{g:Nat}{t:TypeId}{cs:Array Value}(h:Blk w g t cs)(i:Nat):w.frozen? ⟨g,i,none⟩=false:=by
 unfold Blk at h
 simp [World.frozen?,h]
theorem Blk.new(w:World)(t:TypeId)(cs:Array Value):Blk (w.alloc (.cells cs t)) w.heap.size t cs:=heap_alloc_new w _
theorem AW{w:World}{b:Nat}(t:TypeId)(cs:Array Value)(h:b=w.heap.size):Blk (w.alloc (.cells cs t)) b t cs:=h▸Blk.new w t cs
theorem Blk.drew{w:World}{g:Nat}{t:TypeId}{cs:Array Value}(h:Blk w g t cs):Blk w.drew g t cs:=h
theorem Blk.alloc{w:World}{g:Nat}{t:TypeId}{cs:Array Value}(h:Blk w g t cs)(o:Obj):Blk (w.alloc o) g t cs:=(Below.heap_alloc w o g h.lt).trans h
theorem Blk.set{w:World}{g:Nat}{t:TypeId}{cs:Array Value}(h:Blk w g t cs)(i:Nat)(u:Value):Blk (w.setCell ⟨g,i,none⟩ u) g t (cs.setIfInBounds i u):=by
 unfold Blk at h ⊢
 simp [World.setCell,Array.getElem?_modify,h]
theorem Blk.far{w:World}{g:Nat}{t:TypeId}{cs:Array Value}(h:Blk w g t cs){p:Addr}(hp:g≠p.block)(u:Value):Blk (w.setCell p u) g t cs:=(Below.heap_setCell w p u g hp).trans h
theorem Blk.ext{w w':World}{g:Nat}{t:TypeId}{cs:Array Value}(h:Blk w g t cs)(he:Ext w w'):Blk w' g t cs:=(he.block h.lt).trans h
theorem Blk.below{w w':World}{B g:Nat}{t:TypeId}{cs:Array Value}(h:Blk w g t cs)(hb:Below B w w')(hg:g<B):Blk w' g t cs:=(hb.block g hg).trans h
theorem Bu{w:World}{g:Nat}{l:List Nat}{c:Nat}(h:Blk w g 108 (wv l))(hs:Bn l)(hc:l.length<=c)(hm:c<=9223372036854775807):Words w (.slice (some ⟨g,0,none⟩) l.length c) l:=
 ⟨_,c,rfl,hc,hm,hs,λ_=>⟨g,0,_,_,rfl,h,λi hi=>by rw [Nat.zero_add];exact Xy hi⟩⟩
theorem Words.below{w w':World}{v:Value}{l:List Nat}{B:Nat}(h:Words w v l)(he:Below B w w')(hB:w.heap.size<=B):Words w' v l:=by
 obtain ⟨A,c,hv,hc,hm,hs,hx⟩:=h
 refine ⟨A,c,hv,hc,hm,hs,λhl=>?_⟩
 obtain ⟨b,o,cs,fz,hA,hb,hi⟩:=hx hl
 exact ⟨b,o,cs,fz,hA,(he.block b (Nat.lt_of_lt_of_le (AU hb) hB)).trans hb,hi⟩
def Ty(w:World)(b:Nat)(t:TypeId):Prop:=∃cs fz,w.heap[b]? = some (.cells cs t fz)
theorem Ty.ext{w w':World}{b:Nat}{t:TypeId}(h:Ty w b t)(he:Ext w w'):Ty w' b t:=by
 obtain ⟨cs,fz,h⟩:=h
 exact ⟨cs,fz,(he.block (AU h)).trans h⟩
theorem Ty.set{w:World}{b:Nat}{t:TypeId}(h:Ty w b t)(p:Addr)(u:Value):Ty (w.setCell p u) b t:=by
 obtain ⟨cs,fz,h⟩:=h
 by_cases hb:b=p.block
 .subst hb
  exact ⟨_,fz,by simp [World.setCell,Array.getElem?_modify,h];rfl⟩
 .exact ⟨cs,fz,(Below.heap_setCell w p u b hb).trans h⟩
theorem Ty.new(w:World)(cs:Array Value)(t:TypeId):Ty (w.alloc (.cells cs t)) w.heap.size t:=⟨cs,_,heap_alloc_new w _⟩
theorem Br{w:World}{b:Nat}(cs:Array Value)(t:TypeId)(h:b=w.heap.size):Ty (w.alloc (.cells cs t)) b t:=h▸Ty.new w cs t
theorem Ty.drew{w:World}{b:Nat}{t:TypeId}(h:Ty w b t):Ty w.drew b t:=h
theorem Ty.alloc{w:World}{b:Nat}{t:TypeId}(h:Ty w b t)(o:Obj):Ty (w.alloc o) b t:=h.ext ((Ext.refl _).alloc o)
theorem Blk.ty{w:World}{g:Nat}{t:TypeId}{cs:Array Value}(h:Blk w g t cs):Ty w g t:=⟨cs,_,h⟩
theorem Ext.set{w w1:World}(h:Ext w w1){p:Addr}(hp:w.heap.size<=p.block)(u:Value):Ext w (w1.setCell p u):=Below.setCell h hp u
theorem Words.set{w:World}{v:Value}{l:List Nat}(h:Words w v l){p:Addr}{t:TypeId}(ht:Ty w p.block t)(hne:t≠108)(u:Value):Words (w.setCell p u) v l:=by
 obtain ⟨A,c,hv,hc,hm,hs,hx⟩:=h
 refine ⟨A,c,hv,hc,hm,hs,λhl=>?_⟩
 obtain ⟨b,o,cs,fz,hA,hb,hi⟩:=hx hl
 have hbp:b≠p.block:=by
  rintro rfl
  obtain ⟨cs',fz',h'⟩:=ht
  rw [hb] at h'
  injection h' with h'
  injection h' with _ h''
  exact hne h''.symm
 exact ⟨b,o,cs,fz,hA,(Below.heap_setCell w p u b hbp).trans hb,hi⟩
theorem Nd{l:List Nat}{k:Nat}(h:k<l.length):val (l.take (k+1))=val (l.take k)+BB^k*l.getD k 0:=by
 rw [List.take_succ_eq_append_getElem h,Fr]
 simp [val,h,Nat.min_eq_left (Nat.le_of_lt h)]
theorem Qh{l:List Nat}{k:Nat}(h:l.length<=k):val (l.take (k+1))=val (l.take k)+BB^k*l.getD k 0:=by
 rw [List.take_of_length_le h,List.take_of_length_le (by omega)]
 simp [h]
theorem AK(l:List Nat)(k:Nat):val (l.take (k+1))=val (l.take k)+BB^k*l.getD k 0:=by
 rcases Nat.lt_or_ge k l.length with h | h
 .exact Nd h
 .exact Qh h
theorem Cb{l:List Nat}{k x:Nat}:(l.set k x).take k=l.take k:=by
 rw [List.take_set,List.set_eq_of_length_le (by rw [List.length_take];omega)]
theorem BC{l:List Nat}{k x:Nat}(h:k<l.length):(l.set k x).getD k 0=x:=by simp [h]
theorem AD{l:List Nat}(h:Bn l)(k:Nat):l.getD k 0<BB:=by
 rcases Nat.lt_or_ge k l.length with hk | hk
 .simp only [List.getD_eq_getElem?_getD,List.getElem?_eq_getElem hk,Option.getD_some]
  exact h _ (List.getElem_mem hk)
 .simp [hk,BP]
theorem BX{l:List Nat}(h:Bn l)(k:Nat){x:Nat}(hx:x<BB):Bn (l.set k x):=λy hy=>by
 rcases List.mem_or_eq_of_mem_set hy with h1 | h1
 .exact h y h1
 .rw [h1];exact hx
theorem Bs(n:Nat):Bn (List.replicate n 0):=λx hx=>by
 rw [List.eq_of_mem_replicate hx];exact BP
theorem Nu{a b r:List Nat}{k c x y:Nat}(hk:k<r.length)(hx:a.getD k 0=x)(hy:b.getD k 0=y)(hxB:x<BB)(hyB:y<BB)(hc:c<=1)
  (h:val (r.take k)+BB^k*c=val (a.take k)+val (b.take k)) :
  val ((r.set k ((x+c+y)%BB)).take (k+1))+BB^(k+1)*((x+c+y)/BB)=val (a.take (k+1))+val (b.take (k+1))/\(x+c+y)/BB<=1:=by
 constructor
 .rw [AK,Cb,BC hk,AK a,AK b,hx,hy]
  have e:=Nat.mod_add_div (x+c+y) BB
  have e2:BB^k*((x+c+y)%BB)+BB^(k+1)*((x+c+y)/BB)=BB^k*(x+c+y):=by
   rw [Nat.pow_succ,Nat.mul_assoc,<-Nat.mul_add,e]
  have e3:BB^k*(x+c+y)=BB^k*x+BB^k*c+BB^k*y:=by rw [Nat.mul_add,Nat.mul_add]
  omega
 .have:x+c+y<2*BB:=by omega
  have:=Nat.div_lt_of_lt_mul (show x+c+y<BB*2 by omega)
  omega
theorem Ck(v:Value)(l:List Nat)(w:World)(h:Words w v l) :
  Calls Tryz.prog 116 #[v] w λe w'=>∃v',e = .returned v'/\Words w' v' (CL l)/\Ext w w':=by
 obtain ⟨A,c,rfl,hc,hm,hx⟩:=h.open_
 have H:=Ac h
 have hs:=Ac h.small
 clear h
 have hA:=Ac hx
 clear hx
 obtain ⟨n,hn⟩:∃n,n=l.length:=⟨_,rfl⟩
 rw [<-hn] at hc ⊢
 have hn':=Ac hn
 clear hn
 go_enter Tryz.func116,Tryz.ntmps116
 go_wp2
 go_loop [3] (λt=>∃k:Nat,k<=n/\t = .int .i64 k/\Hid (CL l=CL (l.take k))) (λt=>(intOf t).toNat)
 case atStart=>exact ⟨n,Nat.le_refl _,rfl,by rw [hn'.out,List.take_length];rfl⟩
 case round=>
  obtain ⟨k,hk,rfl,hR⟩:=hrel
  by_cases hk0:k=0
  .subst hk0
   go_wp2
   go_ret
   refine ⟨_,rfl,?_,Ext.refl _⟩
   have h2:=H.out.take (k:=0) (Nat.zero_le _)
   rw [hR.out]
   exact h2
  .have hlt:0<k:=by omega
   obtain ⟨b,o,rfl,hb,hcell⟩:=hA.out (by rw [<-hn'.out];omega)
   have hcell:=hcell (k-1) (by rw [<-hn'.out];omega)
   have hki:((k:Int)-1).toNat=k-1:=by omega
   by_cases hz:l.getD (k-1) 0=0
   .rw [hz] at hcell
    have hz:=Ac hz
    go_wp2
    go_round
    case rel => exact ⟨k - 1, by omega, by go_num, by
     have h2:k-1<l.length:=by rw [<-hn'.out];omega
     have h3:l[k-1]=0:=by have:=hz.out;simpa [h2] using this
     have h4:=Lt h2 h3
     rw [show k-1+1=k by omega] at h4
     exact hR.out.trans h4⟩
    case measure=>simp [intOf];omega
   .have hz':((l.getD (k-1) 0:Nat):Int)≠0:=by omega
    generalize hx:l.getD (k-1) 0=x at *
    have hx:=Ac hx
    have hzb:((x:Int)==0)=false:=by simpa using hz
    go_wp2
    go_ret
    refine ⟨_,rfl,?_,Ext.refl _⟩
    have h2:=H.out.take (k:=k) (by rw [<-hn'.out];omega)
    have h2':k-1<l.length:=by rw [<-hn'.out];omega
    have h3:l[k-1]≠0:=by have:=hx.out;simp [h2'] at this;omega
    have h4:=In h2' h3
    rw [show k-1+1=k by omega] at h4
    rw [hR.out,h4]
    exact h2
theorem By(n:Nat)(hn:n<=70368744177664)(kl kc:IntKind)(W:World) :
  (Instr.makeSlice 38 (.int kl (n:Int)) (.int kc (n:Int))).run Tryz.prog W = .ok (.slice (some ⟨W.heap.size,0,none⟩) n n) (W.alloc (.cells (wv (List.replicate n 0)) 108)):=by
 obtain ⟨i,hi,hz0,hz1,hz2⟩:=info_parts (show (Tryz.prog.info? 108).map (λi=>(i.zero,i.size,i.bytes))=some (some (.int .u32 0),1,4) by kernel_rfl)
 have hb:(i.bytes:Int)*(n:Int)<=281474976710656:=by rw [hz2];omega
 have hr:=run_make (P:=Tryz.prog) W 38 108 i (.int .u32 0) Tryz.underlying38 hi hz0 kl kc n n (by omega) (by omega) hb (by omega)
 simp only [Int.toNat_natCast] at hr
 rw [hr]
 have:madeCells (Value.int .u32 0).cells (n*i.size)=wv (List.replicate n 0):=by
  apply Array.ext'
  rw [hz1,Nat.mul_one]
  show (madeCells #[Value.int .u32 0] n).toList=_
  rw [toList_madeCells_one]
  simp [wv]
 rw [this]
def SumRel(w wr:World)(la lb r:List Nat)(n k cc:Nat):Prop:=
 r.length=n+1/\Bn r/\Blk wr w.heap.size 108 (wv r)/\val (r.take k)+BB^k*cc=val (la.take k)+val (lb.take k)/\Ext w wr
theorem SumRel.step{w wr:World}{la lb r:List Nat}{n k cc x y:Nat}(h:SumRel w wr la lb r n k cc)(hk:k<n)(hx:la.getD k 0=x)(hy:lb.getD k 0=y)(hxB:x<4294967296)(hyB:y<4294967296)(hc:cc<=1){u z:Int}(hu:u=((x+cc+y)%BB:Nat))(hz:z=((x+cc+y)/BB:Nat)) :
  ∃(k1 c1:Nat) (r1:List Nat),k1<=n/\Value.int .i64 ((k:Int)+1) = .int .i64 k1/\Value.int .u64 z = .int .u64 c1/\c1<=1/\Hid (SumRel w (wr.setCell ⟨w.heap.size,k,none⟩ (.int .u32 u)) la lb r1 n k1 c1):=by
 obtain ⟨h1,h2,h3,h4,h5⟩:=h
 obtain ⟨e1,e2⟩:=Nu (by omega) hx hy (by rw [Bb];exact hxB) (by rw [Bb];exact hyB) hc h4
 refine ⟨k+1,(x+cc+y)/BB,r.set k ((x+cc+y)%BB),hk,by simp,by rw [hz],e2,by simpa using h1,BX h2 k (Nat.mod_lt _ BP),?_,e1,?_⟩
 .rw [hu,<-EQ]
  exact h3.set k _
 .exact Below.setCell h5 (Nat.le_refl _) _
theorem SumRel.close{w wr:World}{la lb r:List Nat}{n cc:Nat}(h:SumRel w wr la lb r n n cc)(hn:la.length=n)(hm:lb.length<=n)(hc:cc<=1) :
  SumRel w (wr.setCell ⟨w.heap.size,n,none⟩ (.int .u32 (cc:Int))) la lb (r.set n cc) n (n+1) 0/\val (r.set n cc)=val la+val lb:=by
 obtain ⟨h1,h2,h3,h4,h5⟩:=h
 have ea:la.take n=la:=List.take_of_length_le (by omega)
 have eb:lb.take n=lb:=List.take_of_length_le hm
 have ea':la.take (n+1)=la:=List.take_of_length_le (by omega)
 have eb':lb.take (n+1)=lb:=List.take_of_length_le (by omega)
 rw [ea,eb] at h4
 have er:(r.set n cc).take (n+1)=r.set n cc:=List.take_of_length_le (by simp;omega)
 have hv:val ((r.set n cc).take (n+1))=val la+val lb:=by
  rw [AK,Cb,BC (by omega),h4]
 refine ⟨⟨by simpa using h1,BX h2 n (Nat.lt_of_le_of_lt hc Fk),?_,by rw [hv,Nat.mul_zero,Nat.add_zero,ea',eb'],Below.setCell h5 (Nat.le_refl _) _⟩,?_⟩
 .rw [<-EQ];exact h3.set n _
 .rw [er] at hv
  exact hv
theorem A1T(va vb:Value)(la lb:List Nat)(w:World)(ha:Words w va la)(hb:Words w vb lb)(hl:lb.length<=la.length)(hn:la.length<=4398046511104) :
  Calls Tryz.prog 141 #[va,vb] w λe w'=>∃v',e = .returned v'/\Words w' v' (Am (val la+val lb))/\Ext w w':=by
 obtain ⟨A,c,rfl,hc,hm,hx⟩:=ha.open_
 obtain ⟨B,d,rfl,hd,hm',hy⟩:=hb.open_
 have Ha:=Ac ha
 have Hb:=Ac hb
 have hsa:=Ac ha.small
 have hsb:=Ac hb.small
 clear ha hb
 have hA:=Ac hx
 have hB:=Ac hy
 clear hx hy
 obtain ⟨n,hn1⟩:∃n,n=la.length:=⟨_,rfl⟩
 obtain ⟨m,hm1⟩:∃m,m=lb.length:=⟨_,rfl⟩
 rw [<-hn1] at hc hl hn ⊢
 rw [<-hm1] at hd hl ⊢
 replace hn1:=Ac hn1
 replace hm1:=Ac hm1
 have hmk:=λW=>By (n+1) (by omega) .i64 .i64 W
 simp only [Int.natCast_add,Int.natCast_one] at hmk
 go_enter Tryz.func141,Tryz.ntmps141
 go_wp2
 go_loopw [6,22] (λcy i wr=>∃(k cc:Nat) (r:List Nat),k<=n/\i = .int .i64 k/\cy = .int .u64 cc/\cc<=1/\Hid (SumRel w wr la lb r n k cc)) (λ_ i _=>n-(intOf i).toNat)
 case atStart=>exact ⟨0,0,List.replicate (n+1) 0,Nat.zero_le _,rfl,rfl,by omega,⟨by simp,Bs _,Blk.new _ _ _,by simp [val],(Ext.refl _).alloc _⟩⟩
 case round=>
  obtain ⟨k,cc,r,hk,rfl,rfl,hcc,hR⟩:=hrel
  by_cases hlt:k<n
  .obtain ⟨b, o, rfl, hb, hcell⟩:=hA.out (by rw [<-hn1.out]; omega)
   replace hcell:=(hR.out.2.2.2.2.cell (p:=⟨b,o+k,none⟩) hb).trans (hcell k (by rw [<-hn1.out];omega))
   have hxB:=AD hsa.out k
   have hyB:=AD hsb.out k
   have hst:wr.cell? ⟨w.heap.size,k,none⟩=some (.int .u32 (r.getD k 0:Nat)):=by rw [hR.out.2.2.1.cell,Ch (by rw [hR.out.1];omega)]
   have hfz:=hR.out.2.2.1.frozen k
   have hyz:Hid (¬k<m->lb.getD k 0=0):=λh=>by
    have h2:lb.length<=k:=by rw [<-hm1.out];omega
    simp [h2]
   generalize hx:la.getD k 0=x at *
   generalize hy:lb.getD k 0=y at *
   replace hx:=Ac hx
   replace hy:=Ac hy
   unfold BB at hxB hyB
   by_cases hlm:k<m
   .obtain ⟨b', o', rfl, hb', hcell'⟩:=hB.out (by rw [<-hm1.out]; omega)
    replace hcell':=(hR.out.2.2.2.2.cell (p:=⟨b',o'+k,none⟩) hb').trans (hcell' k (by rw [<-hm1.out];omega))
    rw [hy.out] at hcell'
    go_wp2
    exact ⟨hR.out.step hlt hx.out hy.out hxB hyB hcc (by rw [Bb];omega) (by rw [Bb];omega),by simp [intOf];omega⟩
   .obtain rfl:=hyz.out hlm
    go_wp2
    exact ⟨hR.out.step hlt hx.out hy.out hxB hyB hcc (by rw [Bb];omega) (by rw [Bb];omega),by simp [intOf];omega⟩
  .obtain rfl:k=n:=by omega
   have hst:wr.cell? ⟨w.heap.size,k,none⟩=some (.int .u32 (r.getD k 0:Nat)):=by rw [hR.out.2.2.1.cell,Ch (by rw [hR.out.1];omega)]
   have hfz:=hR.out.2.2.1.frozen k
   have hcl:=Ac (hR.out.close hn1.out.symm (by rw [<-hm1.out];exact hl) hcc)
   have hW:Hid (Words (wr.setCell ⟨w.heap.size,k,none⟩ (.int .u32 (cc:Int))) (.slice (some ⟨w.heap.size,0,none⟩) (k+1) (k+1)) (r.set k cc)):=by
    have:=Bu (c:=k+1) hcl.out.1.2.2.1 hcl.out.1.2.1 (by rw [hcl.out.1.1];omega) (by omega)
    rw [hcl.out.1.1] at this
    exact this
   go_wp2_with (go_at_call 116;refine (Ck _ _ _ hW.out).mono ?_;rintro e w' ⟨v',rfl,hv',hE⟩)
   go_ret
   refine ⟨v',rfl,?_,hcl.out.1.2.2.2.2.trans hE⟩
   rw [AM hcl.out.1.2.1,hcl.out.2] at hv'
   exact hv'
theorem A1S(va vb:Value)(la lb:List Nat)(w:World)(ha:Words w va la)(hb:Words w vb lb)(hl:lb.length<la.length)(hn:la.length<=4398046511104) :
  Calls Tryz.prog 141 #[vb,va] w λe w'=>∃v',e = .returned v'/\Words w' v' (Am (val la+val lb))/\Ext w w':=by
 obtain ⟨A,c,rfl,hc,hm,hx⟩:=ha.open_
 obtain ⟨B,d,rfl,hd,hm',hy⟩:=hb.open_
 have Ha:=Ac ha
 have Hb:=Ac hb
 have hsa:=Ac ha.small
 have hsb:=Ac hb.small
 clear ha hb
 have hA:=Ac hx
 have hB:=Ac hy
 clear hx hy
 obtain ⟨n,hn1⟩:∃n,n=la.length:=⟨_,rfl⟩
 obtain ⟨m,hm1⟩:∃m,m=lb.length:=⟨_,rfl⟩
 rw [<-hn1] at hc hl hn ⊢
 rw [<-hm1] at hd hl ⊢
 replace hn1:=Ac hn1
 replace hm1:=Ac hm1
 have hmk:=λW=>By (n+1) (by omega) .i64 .i64 W
 simp only [Int.natCast_add,Int.natCast_one] at hmk
 go_enter Tryz.func141,Tryz.ntmps141
 go_wp2
 go_loopw [6,22] (λcy i wr=>∃(k cc:Nat) (r:List Nat),k<=n/\i = .int .i64 k/\cy = .int .u64 cc/\cc<=1/\Hid (SumRel w wr la lb r n k cc)) (λ_ i _=>n-(intOf i).toNat)
 case atStart=>exact ⟨0,0,List.replicate (n+1) 0,Nat.zero_le _,rfl,rfl,by omega,⟨by simp,Bs _,Blk.new _ _ _,by simp [val],(Ext.refl _).alloc _⟩⟩
 case round=>
  obtain ⟨k,cc,r,hk,rfl,rfl,hcc,hR⟩:=hrel
  by_cases hlt:k<n
  .obtain ⟨b, o, rfl, hb, hcell⟩:=hA.out (by rw [<-hn1.out]; omega)
   replace hcell:=(hR.out.2.2.2.2.cell (p:=⟨b,o+k,none⟩) hb).trans (hcell k (by rw [<-hn1.out];omega))
   have hxB:=AD hsa.out k
   have hyB:=AD hsb.out k
   have hst:wr.cell? ⟨w.heap.size,k,none⟩=some (.int .u32 (r.getD k 0:Nat)):=by rw [hR.out.2.2.1.cell,Ch (by rw [hR.out.1];omega)]
   have hfz:=hR.out.2.2.1.frozen k
   have hyz:Hid (¬k<m->lb.getD k 0=0):=λh=>by
    have h2:lb.length<=k:=by rw [<-hm1.out];omega
    simp [h2]
   generalize hx:la.getD k 0=x at *
   generalize hy:lb.getD k 0=y at *
   replace hx:=Ac hx
   replace hy:=Ac hy
   unfold BB at hxB hyB
   by_cases hlm:k<m
   .obtain ⟨b', o', rfl, hb', hcell'⟩:=hB.out (by rw [<-hm1.out]; omega)
    replace hcell':=(hR.out.2.2.2.2.cell (p:=⟨b',o'+k,none⟩) hb').trans (hcell' k (by rw [<-hm1.out];omega))
    rw [hy.out] at hcell'
    go_wp2
    exact ⟨hR.out.step hlt hx.out hy.out hxB hyB hcc (by rw [Bb];omega) (by rw [Bb];omega),by simp [intOf];omega⟩
   .obtain rfl:=hyz.out hlm
    go_wp2
    exact ⟨hR.out.step hlt hx.out hy.out hxB hyB hcc (by rw [Bb];omega) (by rw [Bb];omega),by simp [intOf];omega⟩
  .obtain rfl:k=n:=by omega
   have hst:wr.cell? ⟨w.heap.size,k,none⟩=some (.int .u32 (r.getD k 0:Nat)):=by rw [hR.out.2.2.1.cell,Ch (by rw [hR.out.1];omega)]
   have hfz:=hR.out.2.2.1.frozen k
   have hcl:=Ac (hR.out.close hn1.out.symm (by rw [<-hm1.out];omega) hcc)
   have hW:Hid (Words (wr.setCell ⟨w.heap.size,k,none⟩ (.int .u32 (cc:Int))) (.slice (some ⟨w.heap.size,0,none⟩) (k+1) (k+1)) (r.set k cc)):=by
    have:=Bu (c:=k+1) hcl.out.1.2.2.1 hcl.out.1.2.1 (by rw [hcl.out.1.1];omega) (by omega)
    rw [hcl.out.1.1] at this
    exact this
   go_wp2_with (go_at_call 116;refine (Ck _ _ _ hW.out).mono ?_;rintro e w' ⟨v',rfl,hv',hE⟩)
   go_ret
   refine ⟨v',rfl,?_,hcl.out.1.2.2.2.2.trans hE⟩
   rw [AM hcl.out.1.2.1,hcl.out.2] at hv'
   exact hv'
theorem TX(va vb:Value)(la lb:List Nat)(w:World)(ha:Words w va la)(hb:Words w vb lb)(hn:la.length<=4398046511104)(hm:lb.length<=4398046511104) :
  Calls Tryz.prog 141 #[va,vb] w λe w'=>∃v',e = .returned v'/\Words w' v' (Am (val la+val lb))/\Ext w w':=by
 rcases Nat.lt_or_ge la.length lb.length with h | h
 .rw [Nat.add_comm]
  exact A1S vb va lb la w hb ha h hm
 .exact A1T va vb la lb w ha hb h hn
def DifRel(w wr:World)(la lb r:List Nat)(n k cc:Nat):Prop:=
 r.length=n/\Bn r/\Blk wr w.heap.size 108 (wv r)/\val (r.take k)+val (lb.take k)=val (la.take k)+BB^k*cc/\Ext w wr
theorem UE(x y cc:Nat)(hx:x<4294967296)(hy:y<4294967296)(hc:cc<=1) :
  IntKind.u64.wrap (IntKind.u64.wrap ((x:Int)-cc)-y)%4294967296=((x+BB*(if x<cc+y then 1 else 0)-cc-y:Nat):Int) /\
  IntKind.u64.wrap (IntKind.u64.wrap ((x:Int)-cc)-y)/9223372036854775808=((if x<cc+y then 1 else 0:Nat):Int):=by
 simp only [IntKind.wrap_u64,Bb]
 split
 .constructor<;>omega
 .constructor<;>omega
theorem DifRel.step{w wr:World}{la lb r:List Nat}{n k cc x y:Nat}(h:DifRel w wr la lb r n k cc)(hk:k<n)(hx:la.getD k 0=x)(hy:lb.getD k 0=y)(hxB:x<4294967296)(hyB:y<4294967296)(hc:cc<=1){u z:Int}
  (hu:u=(x+BB*(if x<cc+y then 1 else 0)-cc-y:Nat)) (hz:z=(if x<cc+y then 1 else 0:Nat)) :
  ∃(k1 c1:Nat) (r1:List Nat),k1<=n/\Value.int .i64 ((k:Int)+1) = .int .i64 k1/\Value.int .u64 z = .int .u64 c1/\c1<=1/\Hid (DifRel w (wr.setCell ⟨w.heap.size,k,none⟩ (.int .u32 u)) la lb r1 n k1 c1):=by
 obtain ⟨h1,h2,h3,h4,h5⟩:=h
 have hc':(if x<cc+y then 1 else 0:Nat)<=1:=by split<;>omega
 have hub:x+BB*(if x<cc+y then 1 else 0)-cc-y<BB:=by rw [Bb];split<;>omega
 have hue:x+BB*(if x<cc+y then 1 else 0)-cc-y+y+cc=x+BB*(if x<cc+y then 1 else 0):=by rw [Bb];split<;>omega
 generalize (if x<cc+y then 1 else 0:Nat)=c1 at *
 generalize x+BB*c1-cc-y=q at *
 refine ⟨k+1,c1,r.set k q,hk,by simp,by rw [hz],hc',by simpa using h1,BX h2 k hub,?_,?_,Below.setCell h5 (Nat.le_refl _) _⟩
 .rw [hu,<-EQ]
  exact h3.set k _
 .rw [AK, Cb, BC (by omega), AK la, AK lb, hx, hy]
  have e1:BB^k*q+BB^k*y+BB^k*cc=BB^k*x+BB^(k+1)*c1:=by
   rw [Nat.pow_succ,Nat.mul_assoc,<-Nat.mul_add,<-Nat.mul_add,<-Nat.mul_add,hue]
  omega
theorem DifRel.close{w wr:World}{la lb r:List Nat}{n cc:Nat}(h:DifRel w wr la lb r n n cc)(hn:la.length=n)(hm:lb.length<=n)(hv:val lb<=val la):val r=val la-val lb:=by
 obtain ⟨h1,h2,h3,h4,h5⟩:=h
 have ea:la.take n=la:=List.take_of_length_le (by omega)
 have eb:lb.take n=lb:=List.take_of_length_le hm
 have er:r.take n=r:=List.take_of_length_le (by omega)
 rw [ea,eb,er] at h4
 have hlt:=CI h2
 rw [h1] at hlt
 rcases Nat.eq_zero_or_pos cc with h0 | h0
 .subst h0;omega
 .have:BB^n*1<=BB^n*cc:=Nat.mul_le_mul_left _ h0
  omega
theorem FH(va vb:Value)(la lb:List Nat)(w:World)(ha:Words w va la)(hb:Words w vb lb)(hv:val lb<=val la)(hl:lb.length<=la.length)(hn:la.length<=4398046511104) :
  Calls Tryz.prog 142 #[va,vb] w λe w'=>∃v',e = .returned v'/\Words w' v' (Am (val la-val lb))/\Ext w w':=by
 obtain ⟨A,c,rfl,hc,hm,hx⟩:=ha.open_
 obtain ⟨B,d,rfl,hd,hm',hy⟩:=hb.open_
 have Ha:=Ac ha
 have Hb:=Ac hb
 have hsa:=Ac ha.small
 have hsb:=Ac hb.small
 clear ha hb
 have hA:=Ac hx
 have hB:=Ac hy
 clear hx hy
 replace hv:=Ac hv
 obtain ⟨n,hn1⟩:∃n,n=la.length:=⟨_,rfl⟩
 obtain ⟨m,hm1⟩:∃m,m=lb.length:=⟨_,rfl⟩
 rw [<-hn1] at hc hl hn ⊢
 rw [<-hm1] at hd hl ⊢
 replace hn1:=Ac hn1
 replace hm1:=Ac hm1
 have hmk:=λW=>By n (by omega) .i64 .i64 W
 go_enter Tryz.func142,Tryz.ntmps142
 go_wp2
 go_loopw [6,14] (λcy i wr=>∃(k cc:Nat) (r:List Nat),k<=n/\i = .int .i64 k/\cy = .int .u64 cc/\cc<=1/\Hid (DifRel w wr la lb r n k cc)) (λ_ i _=>n-(intOf i).toNat)
 case atStart=>exact ⟨0,0,List.replicate n 0,Nat.zero_le _,rfl,rfl,by omega,⟨by simp,Bs _,Blk.new _ _ _,by simp [val],(Ext.refl _).alloc _⟩⟩
 case round=>
  obtain ⟨k,cc,r,hk,rfl,rfl,hcc,hR⟩:=hrel
  by_cases hlt:k<n
  .obtain ⟨b, o, rfl, hb, hcell⟩:=hA.out (by rw [<-hn1.out]; omega)
   replace hcell:=(hR.out.2.2.2.2.cell (p:=⟨b,o+k,none⟩) hb).trans (hcell k (by rw [<-hn1.out];omega))
   have hxB:=AD hsa.out k
   have hyB:=AD hsb.out k
   have hst:wr.cell? ⟨w.heap.size,k,none⟩=some (.int .u32 (r.getD k 0:Nat)):=by rw [hR.out.2.2.1.cell,Ch (by rw [hR.out.1];omega)]
   have hfz:=hR.out.2.2.1.frozen k
   have hyz:Hid (¬k<m->lb.getD k 0=0):=λh=>by
    have h2:lb.length<=k:=by rw [<-hm1.out];omega
    simp [h2]
   generalize hx:la.getD k 0=x at *
   generalize hy:lb.getD k 0=y at *
   replace hx:=Ac hx
   replace hy:=Ac hy
   unfold BB at hxB hyB
   by_cases hlm:k<m
   .obtain ⟨b', o', rfl, hb', hcell'⟩:=hB.out (by rw [<-hm1.out]; omega)
    replace hcell':=(hR.out.2.2.2.2.cell (p:=⟨b',o'+k,none⟩) hb').trans (hcell' k (by rw [<-hm1.out];omega))
    rw [hy.out] at hcell'
    have hnum:=Ac (UE x y cc hxB hyB hcc)
    go_wp2
    exact ⟨hR.out.step hlt hx.out hy.out hxB hyB hcc hnum.out.1 hnum.out.2,by simp [intOf];omega⟩
   .obtain rfl:=hyz.out hlm
    have hnum:=Ac (UE x 0 cc hxB hyB hcc)
    go_wp2
    refine ⟨hR.out.step hlt hx.out hy.out hxB hyB hcc ?_ ?_,by simp [intOf];omega⟩
    .rw [<-hnum.out.1];simp only [IntKind.wrap_u64];omega
    .rw [<-hnum.out.2];simp only [IntKind.wrap_u64];omega
  .obtain rfl:k=n:=by omega
   have hcl:=Ac (hR.out.close hn1.out.symm (by rw [<-hm1.out];exact hl) hv.out)
   have hW:Hid (Words wr (.slice (some ⟨w.heap.size,0,none⟩) k k) r):=by
    have:=Bu (c:=k) hR.out.2.2.1 hR.out.2.1 (by rw [hR.out.1];omega) (by omega)
    rw [hR.out.1] at this
    exact this
   go_wp2_with (go_at_call 116;refine (Ck _ _ _ hW.out).mono ?_;rintro e w' ⟨v',rfl,hv',hE⟩)
   go_ret
   refine ⟨v',rfl,?_,hR.out.2.2.2.2.trans hE⟩
   rw [AM hR.out.2.1,hcl.out] at hv'
   exact hv'
theorem Ja:∀{r:List Nat} {p q z:Nat},p<q->p<r.length->val ((r.set p z).take q)+BB^p*r.getD p 0=val (r.take q)+BB^p*z
 | [],p,q,z,_,h=>by simp at h
 | x::r,0,q+1,z,_,_=>by simp [val];omega
 | x::r,p+1,q+1,z,hp,hl=>by
  have ih:=Ja (r:=r) (p:=p) (q:=q) (z:=z) (by omega) (by simpa using hl)
  simp only [List.set_cons_succ,List.take_succ_cons,val,List.getD_cons_succ,Nat.pow_succ]
  have e1:BB^p*BB*r.getD p 0=BB*(BB^p*r.getD p 0):=by rw [Nat.mul_comm (BB^p) BB,Nat.mul_assoc]
  have e2:BB^p*BB*z=BB*(BB^p*z):=by rw [Nat.mul_comm (BB^p) BB,Nat.mul_assoc]
  rw [e1,e2,Nat.add_assoc,<-Nat.mul_add,ih,Nat.mul_add,Nat.add_assoc]
def TE(w wr:World)(la lb r:List Nat)(n m k:Nat):Prop:=
 r.length=n+m/\Bn r/\Blk wr w.heap.size 108 (wv r)/\val (r.take (k+m))=val (la.take k)*val lb/\Ext w wr
def MulIn(w wr:World)(la lb r:List Nat)(n m k j x cc:Nat):Prop:=
 r.length=n+m/\Bn r/\Blk wr w.heap.size 108 (wv r)/\val (r.take (k+m))+BB^(k+j)*cc=val (la.take k)*val lb+BB^k*(x*val (lb.take j))/\Ext w wr
theorem MulIn.drewN{w wr:World}{la lb r:List Nat}{n m k j x cc:Nat}(h:MulIn w wr la lb r n m k j x cc)(q:Nat):MulIn w (wr.drewN q) la lb r n m k j x cc:=
 ⟨h.1,h.2.1,h.2.2.1,h.2.2.2.1,h.2.2.2.2.drewN q⟩
theorem DK{x y:Nat}(hx:x<4294967296)(hy:y<4294967296):x*y<=18446744065119617025:=
 Nat.le_trans (Nat.mul_le_mul (Nat.le_of_lt_succ hx) (Nat.le_of_lt_succ hy)) (by decide)
theorem MulIn.step{w wr:World}{la lb r:List Nat}{n m k j x y z cc:Nat}(h:MulIn w wr la lb r n m k j x cc)(hj:j<m)(hk:k<n)(hy:lb.getD j 0=y)(hz:r.getD (k+j) 0=z)(hxB:x<4294967296)(hyB:y<4294967296)(hzB:z<4294967296)(hc:cc<4294967296){u v:Int}
  (hu:u=((x*y+z+cc)%BB:Nat)) (hv:v=((x*y+z+cc)/BB:Nat)) :
  ∃(j1 c1:Nat) (r1:List Nat),j1<=m/\Value.int .i64 ((j:Int)+1) = .int .i64 j1/\Value.int .u64 v = .int .u64 c1/\c1<4294967296/\Hid (MulIn w (wr.setCell ⟨w.heap.size,k+j,none⟩ (.int .u32 u)) la lb r1 n m k j1 x c1):=by
 obtain ⟨h1,h2,h3,h4,h5⟩:=h
 have hb:=DK hxB hyB
 have hq:(x*y+z+cc)/BB<4294967296:=by rw [Bb];omega
 refine ⟨j+1,(x*y+z+cc)/BB,r.set (k+j) ((x*y+z+cc)%BB),hj,by simp,by rw [hv],hq,by simpa using h1,BX h2 _ (Nat.mod_lt _ BP),?_,?_,Below.setCell h5 (Nat.le_refl _) _⟩
 .rw [hu,<-EQ]
  exact h3.set _ _
 .have e:=Ja (r:=r) (p:=k+j) (q:=k+m) (z:=(x*y+z+cc)%BB) (by omega) (by omega)
  rw [hz] at e
  have e2:=Nat.mod_add_div (x*y+z+cc) BB
  have e3:BB^(k+j)*((x*y+z+cc)%BB)+BB^(k+(j+1))*((x*y+z+cc)/BB)=BB^(k+j)*(x*y+z+cc):=by
   rw [<-Nat.add_assoc,Nat.pow_succ,Nat.mul_assoc,<-Nat.mul_add,e2]
  have e4:BB^(k+j)*(x*y+z+cc)=BB^(k+j)*(x*y)+BB^(k+j)*z+BB^(k+j)*cc:=by rw [Nat.mul_add,Nat.mul_add]
  have e5:BB^k*(x*val (lb.take (j+1)))=BB^k*(x*val (lb.take j))+BB^(k+j)*(x*y):=by
   rw [AK,hy,Nat.mul_add x,Nat.mul_add (BB^k),Nat.pow_add]
   congr 1
   rw [Nat.mul_assoc,Nat.mul_left_comm x,Nat.mul_left_comm (BB^j)]
  omega
theorem MulIn.close{w wr:World}{la lb r:List Nat}{n m k x cc:Nat}(h:MulIn w wr la lb r n m k m x cc)(hk:k<n)(hm:lb.length=m)(hx:la.getD k 0=x)(hc:cc<4294967296) :
  TE w (wr.setCell ⟨w.heap.size,k+m,none⟩ (.int .u32 (cc:Int))) la lb (r.set (k+m) cc) n m (k+1):=by
 obtain ⟨h1,h2,h3,h4,h5⟩:=h
 have eb:lb.take m=lb:=List.take_of_length_le (by omega)
 rw [eb] at h4
 refine ⟨by simpa using h1,BX h2 _ (by rw [Bb];exact hc),?_,?_,Below.setCell h5 (Nat.le_refl _) _⟩
 .rw [<-EQ];exact h3.set _ _
 .rw [show k+1+m=k+m+1 by omega,AK,Cb,BC (by omega),h4,AK la,hx,Nat.add_mul,Nat.mul_assoc]
theorem QD(va vb:Value)(la lb:List Nat)(w:World)(ha:Words w va la)(hb:Words w vb lb)(hn:la.length<=4398046511104)(hm:lb.length<=4398046511104) :
  Calls Tryz.prog 140 #[va,vb] w λe w'=>∃v',e = .returned v'/\Words w' v' (Am (val la*val lb))/\Ext w w':=by
 obtain ⟨A,c,rfl,hc,hm',hx⟩:=ha.open_
 obtain ⟨B,d,rfl,hd,hm'',hy⟩:=hb.open_
 have hsa:=Ac ha.small
 have hsb:=Ac hb.small
 clear ha hb
 have hA:=Ac hx
 have hB:=Ac hy
 clear hx hy
 obtain ⟨n,hn1⟩:∃n,n=la.length:=⟨_,rfl⟩
 obtain ⟨m,hm1⟩:∃m,m=lb.length:=⟨_,rfl⟩
 rw [<-hn1] at hc hn ⊢
 rw [<-hm1] at hd hm ⊢
 replace hn1:=Ac hn1
 replace hm1:=Ac hm1
 have hmk:=λW=>By (n+m) (by omega) .i64 .i64 W
 simp only [Int.natCast_add] at hmk
 go_enter Tryz.func140,Tryz.ntmps140
 go_wp2
 go_loopw [19] (λi wr=>∃(k:Nat) (r:List Nat),k<=n/\i = .int .i64 k/\Hid (TE w wr la lb r n m k)) (λi _=>n-(intOf i).toNat)
 case atStart => exact ⟨0, List.replicate (n + m) 0, Nat.zero_le _, rfl, by simp, Bs _, Blk.new _ _ _, by
  have:∀q,val (List.replicate q 0)=0:=λq=>by
   induction q with
   | zero=>rfl
   | succ q ih=>simp [List.replicate_succ,val,ih]
  simp [val,List.take_replicate,this],(Ext.refl _).alloc _⟩
 case round=>
  obtain ⟨k,r,hk,rfl,hR⟩:=hrel
  by_cases hlt:k<n
  .obtain ⟨b, o, rfl, hb, hcell⟩:=hA.out (by rw [<-hn1.out]; omega)
   replace hcell:=(hR.out.2.2.2.2.cell (p:=⟨b,o+k,none⟩) hb).trans (hcell k (by rw [<-hn1.out];omega))
   have hxB:=AD hsa.out k
   generalize hx:la.getD k 0=x at *
   replace hx:=Ac hx
   unfold BB at hxB
   go_wp2
   obtain ⟨wo,rfl⟩:∃wo:World,wo=wr:=⟨_,rfl⟩
   go_loopw [7,29] (λcy i wr=>∃(j cc:Nat) (r:List Nat),j<=m/\i = .int .i64 j/\cy = .int .u64 cc/\cc<4294967296/\Hid (MulIn w wr la lb r n m k j x cc)) (λ_ i _=>m-(intOf i).toNat)
   case atStart=>exact ⟨0,0,r,Nat.zero_le _,rfl,rfl,by omega,hR.out.1,hR.out.2.1,hR.out.2.2.1,by simp [val,hR.out.2.2.2.1],hR.out.2.2.2.2⟩
   case round=>
    obtain ⟨j,cc,r,hj,rfl,rfl,hcc,hI⟩:=hrel
    by_cases hjm:j<m
    .obtain ⟨b', o', rfl, hb', hcell'⟩:=hB.out (by rw [<-hm1.out]; omega)
     replace hcell':=(hI.out.2.2.2.2.cell (p:=⟨b',o'+j,none⟩) hb').trans (hcell' j (by rw [<-hm1.out];omega))
     have hyB:=AD hsb.out j
     have hzB:=AD hI.out.2.1 (k+j)
     have hst:wr.cell? ⟨w.heap.size,k+j,none⟩=some (.int .u32 (r.getD (k+j) 0:Nat)):=by rw [hI.out.2.2.1.cell,Ch (by rw [hI.out.1];omega)]
     have hfz:=hI.out.2.2.1.frozen (k+j)
     generalize hy:lb.getD j 0=y at *
     generalize hz:r.getD (k+j) 0=z at *
     replace hy:=Ac hy
     replace hz:=Ac hz
     unfold BB at hyB hzB
     have hp:(x:Int)*y<=18446744065119617025:=by have:=DK hxB hyB;omega
     have hp0:(0:Int)<=(x:Int)*y:=Int.mul_nonneg (by omega) (by omega)
     go_wp2
     go_quiet (fail)
     go_wp2
     exact ⟨(hI.out.drewN nq).step hjm hlt hy.out hz.out hxB hyB hzB hcc (by rw [Bb];omega) (by rw [Bb];omega),by simp [intOf];omega⟩
    .obtain rfl:j=m:=by omega
     have hst:wr.cell? ⟨w.heap.size,k+j,none⟩=some (.int .u32 (r.getD (k+j) 0:Nat)):=by rw [hI.out.2.2.1.cell,Ch (by rw [hI.out.1];omega)]
     have hfz:=hI.out.2.2.1.frozen (k+j)
     have hcl:=Ac (hI.out.close hlt hm1.out.symm hx.out hcc)
     go_wp2
     exact ⟨⟨k+1,_,hlt,by simp,hcl⟩,by simp [intOf];omega⟩
  .obtain rfl:k=n:=by omega
   have hW:Hid (Words wr (.slice (some ⟨w.heap.size,0,none⟩) (k+m) (k+m)) r):=by
    have:=Bu (c:=k+m) hR.out.2.2.1 hR.out.2.1 (by rw [hR.out.1];omega) (by omega)
    rw [hR.out.1] at this
    exact this
   have hcl:Hid (val r=val la*val lb):=by
    have h1:=hR.out.2.2.2.1
    have er:r.take (k+m)=r:=List.take_of_length_le (by rw [hR.out.1];omega)
    have ea:la.take k=la:=List.take_of_length_le (by rw [<-hn1.out];omega)
    rw [er,ea] at h1
    exact h1
   go_wp2_with (go_at_call 116;refine (Ck _ _ _ hW.out).mono ?_;rintro e w' ⟨v',rfl,hv',hE⟩)
   go_ret
   refine ⟨v',rfl,?_,hR.out.2.2.2.2.trans hE⟩
   rw [AM hR.out.2.1,hcl.out] at hv'
   exact hv'
theorem Nh{w:World}{base:Nat}{v:Value}{l:List Nat}{n:Nat}(h:w.ownsRow base 108 1 v n (wv l).toList)(hs:Bn l):Words w v l:=by
 obtain ⟨h1,h2⟩:=h
 have hl:l.length=n:=by simpa [wv] using h1
 rcases h2 with ⟨rfl,rfl⟩ | ⟨g,cap,cur,rfl,_,hg,hc,hm,hsz,ht⟩
 .have:l=[]:=List.eq_nil_of_length_eq_zero hl
  subst this
  exact Words.nil _ _ _ (by omega)
 .subst hl
  refine ⟨_,cap,rfl,hc,by simpa [maxLen] using hm,hs,λ_=>⟨g,0,cur,(0,0),rfl,hg,λi hi=>?_⟩⟩
  have:(cur.toList.take (l.length*1))[i]? = (wv l).toList[i]?:=by rw [ht]
  rw [List.getElem?_take,if_pos (by omega)] at this
  have e2:=Xy hi
  rw [Nat.zero_add]
  simpa [e2] using this
theorem ID{P:Program}(w:World)(t ty e:TypeId)(i:TypeInfo)(ht:P.underlying t=some (.slice e))(hi:P.info? e=some i)(c:Nat) :
  (Builtin.append_ #[t,t] ty #[.slice none 0 0,.slice none 0 c]).run P w = .ok (.slice none 0 0) w:=by
 simp [Builtin.append_,run_underlying ht,sizeOf,typeInfo,hi,Builtin.lenOf,Builtin.firstCells]
theorem Tb(b o j:Nat):Addr.add ⟨b,o,none⟩ j=⟨b,o+j,none⟩:=by
 unfold Addr.add
 split
 .rename_i h;subst h;rfl
 .rfl
theorem FT{P:Program}{w w':World}{ops:Array Oper}{rest:List Oper}{o:Oper}{a:Act}{Q:Exit->Act->World->Prop}(hgd:o.guard=none)(s x:Operand)(t:TypeId)
  (ho:o.op = .call { callee:=.builtin .append,args:=#[s,x],argTypes:=#[t,t] }) (v u:Value) (hs:a.eval s=v) (hx:a.eval x=u) {v':Value}
  (hrun:(Builtin.append_ #[t,t] o.type #[v,u]).run P w = .ok v' w') (h:wpList P ops Q rest (a.put o.dst v') w'):wpList P ops Q (o::rest) a w:=by
 refine wpList_plain hgd λK hK=>?_
 unfold Oper.wp execOp
 simp only [ho,resolve,invoke,builtin,Sem.run_bind,Sem.run_pure,Result.andThen_ok,List.map_toArray,List.map_cons,List.map_nil,hs,hx,hrun]
 exact hK _ _ h
theorem La{w:World}{A:Option Addr}{c:Nat}{l:List Nat}(h:Words w (.slice A l.length c) l)(hn:l.length<=35184372088832) :
  ∃v' w',(Builtin.append_ #[38,38] 38 #[.slice none 0 0,.slice A l.length c]).run Tryz.prog w = .ok v' w'/\Words w' v' l/\Ext w w':=by
 obtain ⟨i,hi,hz0,hz1,hz2⟩:=info_parts (show (Tryz.prog.info? 108).map (λi=>(i.zero,i.size,i.bytes))=some (some (.int .u32 0),1,4) by kernel_rfl)
 have hs:=h.small
 obtain ⟨A',c',hv,hc,hm,hx⟩:=h.open_
 injection hv with h1 _ h3
 subst h1;subst h3
 cases A with
 | none=>
  have hl:l.length=0:=by
   rcases Nat.eq_zero_or_pos l.length with h0 | h0
   .exact h0
   .obtain ⟨b,o,hA,_⟩:=hx h0;cases hA
  have:l=[]:=List.eq_nil_of_length_eq_zero hl
  subst this
  exact ⟨_,_,ID w _ _ _ i Tryz.underlying38 hi c,Words.nil _ _ _ (by omega),Ext.refl _⟩
 | some ad=>
  have hcells:∀(j:Nat) (u:Value),(wv l).toList[j]? = some u->w.cell? (ad.add j)=some u:=by
   intro j u hu
   have hj:j<l.length:=by
    have:=(List.getElem?_eq_some_iff.1 hu).1
    simpa [wv] using this
   obtain ⟨b,o,hA,_,hcell⟩:=hx (by omega)
   have hA':=Option.some.inj hA
   subst hA'
   have e1:=hcell j hj
   have e2:=Ch hj
   have e3:u = .int .u32 (l.getD j 0:Nat):=by
    rw [Array.getElem?_toList,e2] at hu
    exact (Option.some.inj hu).symm
   rw [e3,<-e1,Tb]
  have h1':∀u∈(wv l).toList,u.oneCell'=true:=by
   intro u hu
   have hu':u∈l.map λx=>Value.int .u32 (x:Nat):=by simpa [wv] using hu
   obtain ⟨x,_,rfl⟩:=List.mem_map.1 hu'
   rfl
  obtain ⟨v', w', hrun, hown, hg, _⟩ := run_append_own (P := Tryz.prog) w w.heap.size 38 38 108 i (.int .u32 0) 1 4 Tryz.underlying38 hi hz0 hz1 hz2 rfl (by omega)
   (.slice none 0 0) 0 [] ⟨by simp,.inl ⟨rfl,rfl⟩⟩ ad l.length c (wv l).toList (by simp [wv]) hcells h1' (by simp only [maxLen];omega) (by omega) (Nat.le_refl _)
  refine ⟨v',w',hrun,?_,?_⟩
  .rw [List.nil_append] at hown
   exact Nh hown hs
  .exact (Ext.refl w).trans ((Below.refl _ _).grown hg (Nat.le_refl _) (by simp [Value.ownBlock]))
theorem Ii(v:Value)(l:List Nat)(w:World)(h:Words w v l)(hn:l.length<=35184372088832) :
  Calls Tryz.prog 115 #[v] w λe w'=>∃v',e = .returned v'/\Words w' v' l/\Ext w w':=by
 obtain ⟨A,c,rfl,hc,hm,hx⟩:=h.open_
 obtain ⟨v',w',hrun,hW,hE⟩:=La h hn
 replace hrun:=Ac hrun
 clear hx h
 go_enter Tryz.func115,Tryz.ntmps115
 go_wp2_with (at_builtin;refine FT rfl _ _ _ rfl _ _ rfl rfl hrun.out ?_)
 go_ret
 exact ⟨v',rfl,hW,hE⟩
theorem JK(m:Nat)(w:World)(hm:m<18446744073709551616) :
  Calls Tryz.prog 119 #[.int .u64 m] w λe w'=>∃v',e = .returned v'/\Words w' v' (Am m)/\Ext w w':=by
 have hW:Words (w.alloc (.cells (wv [m%BB,m/BB]) 108)) (.slice (some ⟨w.heap.size,0,none⟩) 2 2) [m%BB,m/BB]:=
  Bu (l:=[m%BB,m/BB]) (c:=2) (Blk.new _ _ _) (λx hx=>by
   simp at hx
   rcases hx with rfl | rfl
   .exact Nat.mod_lt _ BP
   .exact Nat.div_lt_of_lt_mul (by rw [Bb];omega)) (by simp) (by omega)
 have hv:Hid (val [m%BB,m/BB]=m):=by
  show m%BB+BB*(m/BB+BB*0)=m
  rw [Nat.mul_zero,Nat.add_zero]
  exact Nat.mod_add_div m BB
 have e1:Hid ((w.alloc (.cells (wv [m%BB,m/BB]) 108))=w.alloc (.cells #[.int .u32 ((m:Int)%4294967296),.int .u32 ((m:Int)/4294967296)] 108)):=by
  simp [wv,Bb,Hid]
 have hW2:=Ac hW
 have hS:=Ac hW.small
 rw [e1.out] at hW2
 clear hW
 go_enter Tryz.func119,Tryz.ntmps119
 go_wp2_with fail
 refine (Ck _ _ _ hW2.out).mono ?_
 rintro e w' ⟨v',rfl,hv',hE⟩
 go_wp2
 go_ret
 refine ⟨v',rfl,?_,((Ext.refl _).alloc _).trans hE⟩
 rw [AM hS.out,hv.out] at hv'
 exact hv'
theorem NL(a:Nat)(ha:a<18446744073709551616):(BitVec.ofInt 64 (a:Int)).toNat=a:=by
 rw [BitVec.ofInt_natCast,BitVec.toNat_ofNat];exact Nat.mod_eq_of_lt ha
theorem LX{q x:Nat}(hq:q<4294967296)(hx:x<4294967296):bits .or .u64 (q:Int) ((x:Int)*4294967296)=((q+x*4294967296:Nat):Int):=by
 have h1:((x:Int)*4294967296)=((x*4294967296:Nat):Int):=by omega
 have h2:q ||| (x*4294967296)=q+x*4294967296:=by
  have:=Nat.shiftLeft_add_eq_or_of_lt (i:=32) (b:=q) (by omega) x
  rw [Nat.shiftLeft_eq,show (2:Nat)^32=4294967296 from rfl] at this
  rw [Nat.or_comm]
  omega
 rw [h1]
 show IntKind.u64.wrap ((BitVec.ofInt 64 (q:Int) ||| BitVec.ofInt 64 ((x*4294967296:Nat):Int)).toNat:Int)=_
 rw [BitVec.toNat_or,NL q (by omega),NL _ (by omega),IntKind.wrap_u64,h2]
 omega
theorem No(v:Value)(l:List Nat)(w:World)(h:Words w v l)(hn:l.length<=2) :
  Calls Tryz.prog 117 #[v] w λe w'=>e = .returned (.int .u64 (val l:Nat))/\Ext w w':=by
 obtain ⟨A,c,rfl,hc,hm,hx⟩:=h.open_
 have hs:=Ac h.small
 clear h
 have hA:=Ac hx
 clear hx
 obtain ⟨n,hn1⟩:∃n,n=l.length:=⟨_,rfl⟩
 rw [<-hn1] at hc hn ⊢
 replace hn1:=Ac hn1
 go_enter Tryz.func117,Tryz.ntmps117
 go_wp2
 go_loop [3,7] (λt i=>∃(k q:Nat),k<=n/\i = .int .i64 k/\t = .int .u64 q/\Hid (q=val (l.take k))) (λ_ i=>n-(intOf i).toNat)
 case atStart=>exact ⟨0,0,Nat.zero_le _,rfl,rfl,rfl⟩
 case round=>
  obtain ⟨k,q,hk,rfl,rfl,hq⟩:=hrel
  by_cases hlt:k<n
  .obtain ⟨b, o, rfl, hb, hcell⟩:=hA.out (by rw [<-hn1.out]; omega)
   replace hcell:=hcell k (by rw [<-hn1.out];omega)
   have hxB:=AD hs.out k
   have hv1:=Ac (AK l k)
   generalize hx:l.getD k 0=x at *
   replace hx:=Ac hx
   unfold BB at hxB
   have hk01:k=0\/k=1:=by omega
   rcases hk01 with rfl | rfl
   .obtain rfl:q=0:=by rw [hq.out]; rfl
    simp only [Nat.add_zero] at hcell
    go_wp2
    refine ⟨⟨1,x,by omega,rfl,?_,?_⟩,by simp [intOf];omega⟩
    .have h1:=LX (q:=x) (x:=0) hxB (by omega)
     have h2:bits .or .u64 0 (x:Int)=bits .or .u64 (x:Int) 0:=by
      show IntKind.u64.wrap ((BitVec.ofInt 64 0 ||| BitVec.ofInt 64 (x:Int)).toNat:Int)=IntKind.u64.wrap ((BitVec.ofInt 64 (x:Int) ||| BitVec.ofInt 64 0).toNat:Int)
      rw [BitVec.or_comm]
     have h3:bits .or .u64 (x:Int) 0=x:=by simpa using h1
     rw [h2,h3]
    .have:=hv1.out
     rw [<-hq.out] at this
     simpa [Hid] using this.symm
   .have hqB:q<4294967296:=by
     rw [hq.out]
     have h1:=AK l 0
     have h2:=AD hs.out 0
     simp [val] at h1
     rw [h1]
     simpa [Bb] using h2
    go_wp2
    refine ⟨⟨2,q+BB*x,by omega,rfl,?_,?_⟩,by simp [intOf];omega⟩
    .rw [LX hqB hxB,Bb];congr 1;omega
    .have:=hv1.out
     rw [<-hq.out,Nat.pow_one] at this
     exact this.symm
  .obtain rfl:k=n:=by omega
   go_wp2
   go_ret
   exact ⟨by rw [hq.out,List.take_of_length_le (by rw [<-hn1.out];omega)];rfl,Ext.refl _⟩
def Df(a b:Nat):Int:=if a<b then -1 else if b<a then 1 else 0
theorem BI{x y:Nat}(h:x<=y):(Am x).length<=(Am y).length:=by
 induction y using Nat.strongRecOn generalizing x with
 | _ y ih=>
  by_cases hx:x=0
  .subst hx;rw [Bo];exact Nat.zero_le _
  .have hy:y≠0:=by omega
   rw [DG hx,DG hy]
   simp only [List.length_cons]
   have:=ih (y/BB) (Nat.div_lt_self (by omega) (by decide)) (Nat.div_le_div_right (c:=BB) h)
   omega
theorem Nq{a b:List Nat}{k:Nat}(ha:Bn a)(hl:a.length=b.length)(hk:k<a.length)(he:∀i,k<i->a.getD i 0=b.getD i 0)(hlt:a.getD k 0<b.getD k 0):val a<val b:=by
 have key:∀(j:Nat),k+1+j<=a.length->val (a.take (k+1+j))<val (b.take (k+1+j)):=by
  intro j
  induction j with
  | zero=>
   intro _
   rw [Nat.add_zero,AK,AK]
   have h1:val (a.take k)<BB^k:=by
    have:=CI (l:=a.take k) λx hx=>ha x (List.mem_of_mem_take hx)
    rwa [List.length_take,Nat.min_eq_left (Nat.le_of_lt hk)] at this
   have h2:BB^k*(a.getD k 0+1)<=BB^k*b.getD k 0:=Nat.mul_le_mul_left _ hlt
   rw [Nat.mul_add] at h2
   omega
  | succ j ih=>
   intro hj
   have:=ih (by omega)
   rw [<-Nat.add_assoc,AK,AK,he (k+1+j) (by omega)]
   omega
 have:=key (a.length-(k+1)) (by omega)
 rw [show k+1+(a.length-(k+1))=a.length by omega,List.take_of_length_le (Nat.le_refl _),List.take_of_length_le (by omega)] at this
 exact this
theorem SJ{a b:List Nat}(hl:a.length=b.length)(he:∀i,i<a.length->a.getD i 0=b.getD i 0):a=b:=by
 apply List.ext_getElem hl
 intro i h1 h2
 have:=he i h1
 simpa [h1,h2] using this
theorem HO{x y:Nat}(h:(Am x).length<(Am y).length):Df x y = -1:=by
 have:x<y:=by
  rcases Nat.lt_or_ge x y with h1 | h1
  .exact h1
  .have:=BI h1;omega
 simp [Df,this]
theorem HP{x y:Nat}(h:(Am y).length<(Am x).length):Df x y=1:=by
 have:y<x:=by
  rcases Nat.lt_or_ge y x with h1 | h1
  .exact h1
  .have:=BI h1;omega
 have h2:¬x<y:=by omega
 simp [Df,this,h2]
theorem MF{x y k:Nat}(hl:(Am x).length=(Am y).length)(hk:k<(Am x).length)(he:∀i,k<i->(Am x).getD i 0=(Am y).getD i 0)(hlt:(Am x).getD k 0<(Am y).getD k 0):Df x y = -1:=by
 have:=Nq (Bk x) hl hk he hlt
 rw [Ao,Ao] at this
 simp [Df,this]
theorem MG{x y k:Nat}(hl:(Am x).length=(Am y).length)(hk:k<(Am x).length)(he:∀i,k<i->(Am x).getD i 0=(Am y).getD i 0)(hlt:(Am y).getD k 0<(Am x).getD k 0):Df x y=1:=by
 have:=Nq (Bk y) hl.symm (by omega) (λi hi=>(he i hi).symm) hlt
 rw [Ao,Ao] at this
 have h2:¬x<y:=by omega
 simp [Df,this,h2]
theorem MH{x y:Nat}(hl:(Am x).length=(Am y).length)(he:∀i,(Am x).getD i 0=(Am y).getD i 0):Df x y=0:=by
 have:=SJ hl λi _=>he i
 have h2:x=y:=by rw [<-Ao x,<-Ao y,this]
 simp [Df,h2]
theorem Ek(va vb:Value)(x y:Nat)(w:World)(ha:Words w va (Am x))(hb:Words w vb (Am y)) :
  Calls Tryz.prog 121 #[va,vb] w λe w'=>e = .returned (.int .i64 (Df x y))/\Ext w w':=by
 obtain ⟨A,c,rfl,hc,hm',hx⟩:=ha.open_
 obtain ⟨B,d,rfl,hd,hm'',hy⟩:=hb.open_
 clear ha hb
 have hA:=Ac hx
 have hB:=Ac hy
 clear hx hy
 obtain ⟨n,hn1⟩:∃n,n=(Am x).length:=⟨_,rfl⟩
 obtain ⟨m,hm1⟩:∃m,m=(Am y).length:=⟨_,rfl⟩
 rw [<-hn1] at hc ⊢
 rw [<-hm1] at hd ⊢
 replace hn1:=Ac hn1
 replace hm1:=Ac hm1
 rcases Nat.lt_trichotomy n m with hlt | heq | hgt
 .have hne:((n:Int) != m)=true:=by simp; omega
  go_enter Tryz.func121,Tryz.ntmps121
  go_wp2
  go_ret
  exact ⟨by rw [HO (by rw [<-hn1.out,<-hm1.out];exact hlt)];rfl,Ext.refl _⟩
 .subst heq
  have hne:((n:Int) != n)=false:=by simp
  go_enter Tryz.func121,Tryz.ntmps121
  go_wp2
  go_loopw [5] (λi wr=>∃k:Nat,k<=n/\i = .int .i64 ((k:Int)-1)/\Hid (Ext w wr/\∀i,k<=i->(Am x).getD i 0=(Am y).getD i 0)) (λi _=>(intOf i+1).toNat)
  case atStart=>exact ⟨n,Nat.le_refl _,rfl,Ext.refl _,λi hi=>by
   have h1:(Am x).length<=i:=by rw [<-hn1.out];exact hi
   have h2:(Am y).length<=i:=by rw [<-hm1.out];exact hi
   simp [h1,h2]⟩
  case round=>
   obtain ⟨k,hk,rfl,hR⟩:=hrel
   by_cases hk0:k=0
   .subst hk0
    go_wp2
    go_ret
    exact ⟨by rw [MH (by rw [<-hn1.out,<-hm1.out]) (λi=>hR.out.2 i (Nat.zero_le _))];rfl,hR.out.1⟩
   .obtain ⟨q, rfl⟩:∃q, k=q+1:=⟨k-1, by omega⟩
    obtain ⟨b,o,rfl,hb,hcell⟩:=hA.out (by rw [<-hn1.out];omega)
    replace hcell:=(hR.out.1.cell (p:=⟨b,o+q,none⟩) hb).trans (hcell q (by rw [<-hn1.out];omega))
    obtain ⟨b',o',rfl,hb',hcell'⟩:=hB.out (by rw [<-hm1.out];omega)
    replace hcell':=(hR.out.1.cell (p:=⟨b',o'+q,none⟩) hb').trans (hcell' q (by rw [<-hm1.out];omega))
    generalize hX:(Am x).getD q 0=X at *
    generalize hY:(Am y).getD q 0=Y at *
    replace hX:=Ac hX
    replace hY:=Ac hY
    have hq1:((q+1:Nat):Int)-1=q:=by omega
    rw [hq1]
    rcases Nat.lt_trichotomy X Y with hlt | heq | hgt
    .have hneq:((X:Int) != Y)=true:=by simp; omega
     go_wp2
     go_quiet (fail)
     go_wp2
     go_quiet (fail)
     go_wp2
     go_ret
     exact ⟨by rw [MF (k:=q) (by rw [<-hn1.out,<-hm1.out]) (by rw [<-hn1.out];omega) (λi hi=>hR.out.2 i hi) (by rw [hX.out,hY.out];exact hlt)];rfl,(hR.out.1.drewN _).drewN _⟩
    .subst heq
     have hneq:((X:Int) != X)=false:=by simp
     go_wp2
     go_quiet (fail)
     go_wp2
     refine ⟨⟨q,by omega,rfl,hR.out.1.drewN _,λi hi=>?_⟩,by simp [intOf]⟩
     rcases Nat.lt_or_ge q i with h1 | h1
     .exact hR.out.2 i h1
     .obtain rfl:i=q:=by omega
      rw [hX.out,hY.out]
    .have hneq:((X:Int) != Y)=true:=by simp; omega
     have hnlt:¬((X:Int)<Y):=by omega
     go_wp2
     go_quiet (fail)
     go_wp2
     go_quiet (fail)
     go_wp2
     go_ret
     exact ⟨by rw [MG (k:=q) (by rw [<-hn1.out,<-hm1.out]) (by rw [<-hn1.out];omega) (λi hi=>hR.out.2 i hi) (by rw [hX.out,hY.out];exact hgt)];rfl,(hR.out.1.drewN _).drewN _⟩
 .have hne:((n:Int) != m)=true:=by simp; omega
  go_enter Tryz.func121,Tryz.ntmps121
  go_wp2
  go_ret
  exact ⟨by rw [HP (by rw [<-hn1.out,<-hm1.out];exact hgt)];rfl,Ext.refl _⟩
def IsInt(w:World)(c0 c1:Value)(z:Int):Prop:=c0 = .bool (decide (z<0))/\Words w c1 (Am z.natAbs)
theorem IsInt.ext{w w':World}{c0 c1:Value}{z:Int}(h:IsInt w c0 c1 z)(he:Ext w w'):IsInt w' c0 c1 z:=⟨h.1,h.2.ext he⟩
def Dd(z:Int)(w:World)(e:Ending)(w':World):Prop:=∃(b:Bool) (A:Option Addr) (n c:Nat),e = .returned (.agg #[.bool b,.slice A n c])/\IsInt w' (.bool b) (.slice A n c) z/\Ext w w'
theorem IsInt.set{w:World}{c0 c1:Value}{z:Int}(h:IsInt w c0 c1 z){p:Addr}{t:TypeId}(ht:Ty w p.block t)(hne:t≠108)(u:Value):IsInt (w.setCell p u) c0 c1 z:=⟨h.1,h.2.set ht hne u⟩
def Ge(neg:Bool)(n:Nat):Int:=if neg then -(n:Int) else n
theorem IB(neg:Bool)(n:Nat):(Ge neg n).natAbs=n:=by cases neg<;>simp [Ge]
theorem OJ{neg:Bool}{n:Nat}(h:n≠0):decide (Ge neg n<0)=neg:=by cases neg<;>simp [Ge]<;>omega
theorem Gp(neg:Bool):Ge neg 0=0:=by cases neg<;>rfl
theorem A0h{z:Int}:Ge (!decide (z<0)) z.natAbs = -z:=by
 by_cases h:z<0<;>simp [Ge,h]<;>omega
theorem Je{z:Int}:Ge (decide (z<0)) z.natAbs=z:=by
 by_cases h:z<0<;>simp [Ge,h]<;>omega
theorem IsInt.bool_eq{w:World}{b:Bool}{c1:Value}{z:Int}(h:IsInt w (.bool b) c1 z):b=decide (z<0):=by
 have:=h.1
 injection this
theorem IsInt.neg_eq{w:World}{b:Bool}{c1:Value}{z:Int}(h:IsInt w (.bool b) c1 z):Ge (!b) z.natAbs = -z:=by rw [h.bool_eq];exact A0h
theorem AT{n:Nat}:(Am n).length=0↔n=0:=by
 constructor
 .intro h
  have:Am n=[]:=List.eq_nil_of_length_eq_zero h
  rw [<-Ao n,this];rfl
 .rintro rfl;rw [Bo];rfl
theorem Ext.cells{W w1:World}(hb:Ext W w1):(∀b o,b<W.heap.size->w1.cell? ⟨b,o,none⟩=W.cell? ⟨b,o,none⟩)/\(∀b o,b<W.heap.size->w1.frozen? ⟨b,o,none⟩=W.frozen? ⟨b,o,none⟩):=
 ⟨λb o h=>hb.cell (p:=⟨b,o,none⟩) h,λb o h=>hb.frozen (p:=⟨b,o,none⟩) h⟩
theorem Ca(neg:Bool)(v:Value)(l:List Nat)(w:World)(h:Words w v l) :
  Calls Tryz.prog 118 #[.bool neg,v] w λe w'=>Dd (Ge neg (val l)) w e w':=by
 have hs:=Ac h.small
 have H:=Ac h
 clear h
 go_enter Tryz.func118,Tryz.ntmps118
 go_wp2_with fail
 refine (Ck _ _ _ (H.out.ext ((Ext.refl _).alloc _))).mono ?_
 rintro e w1 ⟨v',rfl,hv',hE⟩
 rw [AM hs.out] at hv'
 obtain ⟨A,c,rfl,hc,hm,hx⟩:=hv'.open_
 replace hx:=Ac hx
 obtain ⟨hcell,hfr⟩:=hE.cells
 by_cases h0:(Am (val l)).length=0
 .have hv0:=Ac (AT.1 h0)
  generalize hn:(Am (val l)).length=n at *
  subst h0
  replace hn:=Ac hn
  go_wp2
  refine bodyPost_ret (v:=.agg #[.bool false,.slice none 0 0]) (by simp [results,Tryz.results118,go_sem,hcell]) rfl ⟨_,_,_,_,rfl,⟨?_,?_⟩,?_⟩
  .rw [hv0.out,Gp];rfl
  .rw [hv0.out,Gp]
   show Words _ _ (Am 0)
   rw [Bo]
   exact Words.nil _ _ _ (by omega)
  .exact ((((Ext.refl _).alloc _).trans hE).set (Nat.le_refl _) _).set (Nat.le_refl _) _
 .have hv0:=Ac (λe=>h0 (AT.2 e))
  have hne:(((Am (val l)).length:Int)==0)=false:=by simpa using h0
  go_wp2
  refine bodyPost_ret (v:=.agg #[.bool neg,.slice A (Am (val l)).length c]) (by simp [results,Tryz.results118,go_sem,hcell]) rfl ⟨_,_,_,_,rfl,⟨?_,?_⟩,?_⟩
  .rw [OJ hv0.out]
  .rw [IB]
   have ht:=(Ty.new w #[Value.bool false,Value.slice none 0 0] 40).ext hE
   exact (hv'.set ht (by decide) _).set (ht.set _ _) (by decide) _
  .exact ((((Ext.refl _).alloc _).trans hE).set (Nat.le_refl _) _).set (Nat.le_refl _) _
theorem Nn(z:Int)(w:World)(h0:0<=z)(hm:z<18446744073709551616) :
  Calls Tryz.prog 119 #[.int .u64 z] w λe w'=>∃v',e = .returned v'/\Words w' v' (Am z.toNat)/\Ext w w':=by
 obtain ⟨m,rfl⟩:=Int.eq_ofNat_of_zero_le h0
 rw [Int.toNat_natCast]
 exact JK m w (by omega)
theorem Yw(n:Int)(w:World)(h0:-9223372036854775808<=n)(h1:n<=9223372036854775807) :
  Calls Tryz.prog 122 #[.int .i64 n] w λe w'=>Dd n w e w':=by
 by_cases hn:n<0
 .have hd:decide (n<0)=true:=by simpa using hn
  have e1:Hid (IntKind.u64.wrap (-(IntKind.u64.wrap n)) = -n):=by
   simp only [IntKind.wrap_u64,Hid];omega
  go_enter Tryz.func122,Tryz.ntmps122
  go_wp2_with fail
  rw [e1.out]
  refine (Nn _ _ (by omega) (by omega)).mono ?_
  rintro e w1 ⟨v',rfl,hW,hE⟩
  go_wp2_with fail
  refine (Ca _ _ _ _ hW).mono ?_
  rintro e w2 ⟨b0,A0,n0,k0,rfl,hI,hE2⟩
  replace hE2:=hE.trans hE2
  obtain ⟨hcell,hfr⟩:=hE2.cells
  replace hI:=Ac hI
  replace hE2:=Ac hE2
  clear hE hW
  go_wp2
  refine bodyPost_ret (v:=.agg #[.bool b0,.slice A0 n0 k0]) (by simp [results,Tryz.results122,go_sem,hcell]) rfl ⟨_,_,_,_,rfl,?_,?_⟩
  .have ht:=(Ty.new w #[Value.bool false,Value.slice none 0 0] 40).ext hE2.out
   have hI:=hI.out
   rw [Ao,show Ge true (-n).toNat=n by simp [Ge];omega] at hI
   exact (hI.set ht (by decide) _).set (ht.set _ _) (by decide) _
  .exact ((((Ext.refl _).alloc _).trans hE2.out).set (Nat.le_refl _) _).set (Nat.le_refl _) _
 .have hd:decide (n<0)=false:=by simpa using hn
  go_enter Tryz.func122,Tryz.ntmps122
  go_wp2_with fail
  refine (Nn _ _ (by omega) (by omega)).mono ?_
  rintro e w1 ⟨v',rfl,hW,hE⟩
  go_wp2_with fail
  refine (Ca _ _ _ _ hW).mono ?_
  rintro e w2 ⟨b0,A0,n0,k0,rfl,hI,hE2⟩
  replace hE2:=hE.trans hE2
  obtain ⟨hcell,hfr⟩:=hE2.cells
  replace hI:=Ac hI
  replace hE2:=Ac hE2
  clear hE hW
  go_wp2
  refine bodyPost_ret (v:=.agg #[.bool b0,.slice A0 n0 k0]) (by simp [results,Tryz.results122,go_sem,hcell]) rfl ⟨_,_,_,_,rfl,?_,?_⟩
  .have ht:=(Ty.new w #[Value.bool false,Value.slice none 0 0] 40).ext hE2.out
   have hI:=hI.out
   rw [Ao,show Ge false n.toNat=n by simp [Ge];omega] at hI
   exact (hI.set ht (by decide) _).set (ht.set _ _) (by decide) _
  .exact ((((Ext.refl _).alloc _).trans hE2.out).set (Nat.le_refl _) _).set (Nat.le_refl _) _
theorem LE(b:Bool)(A:Option Addr)(n c:Nat)(z:Int)(w:World)(h:IsInt w (.bool b) (.slice A n c) z) :
  Calls Tryz.prog 71 #[.agg #[.bool b,.slice A n c]] w λe w'=>e = .returned (.int .i64 z.sign)/\Ext w w':=by
 obtain ⟨h1,h2⟩:=h
 obtain ⟨A',c',hv,hc,hm,hx⟩:=h2.open_
 injection hv with e1 e2 e3
 subst e1;subst e3
 clear hx h2
 injection h1 with h1
 by_cases h0:z=0
 .subst h0
  have e0:n=0:=by rw [e2];show (Am 0).length=0;rw [Bo];rfl
  subst e0
  clear h1 e2
  go_enter Tryz.func71,Tryz.ntmps71
  go_wp2
  go_ret
  exact ⟨rfl,(Ext.refl _).alloc _⟩
 .have e0:n≠0:=by
   rw [e2]
   intro e
   have:=AT.1 e
   omega
  have hne:((n:Int)==0)=false:=by simpa using e0
  replace e2:=Ac e2
  cases b with
  | true=>
   have hz:z<0:=by simpa using h1
   clear h1
   go_enter Tryz.func71,Tryz.ntmps71
   go_wp2
   go_ret
   exact ⟨by rw [Int.sign_eq_neg_one_of_neg hz];rfl,(Ext.refl _).alloc _⟩
  | false=>
   have hz:0<z:=by
    have:¬z<0:=by simpa using h1
    omega
   clear h1
   go_enter Tryz.func71,Tryz.ntmps71
   go_wp2
   go_ret
   exact ⟨by rw [Int.sign_eq_one_of_pos hz];rfl,(Ext.refl _).alloc _⟩
theorem OW(b:Bool)(A:Option Addr)(n c:Nat)(z:Int)(w:World)(h:IsInt w (.bool b) (.slice A n c) z)(hn:(Am z.natAbs).length<=4398046511104) :
  Calls Tryz.prog 124 #[.agg #[.bool b,.slice A n c]] w (Dd (-z) w):=by
 replace h:=Ac h
 replace hn:=Ac hn
 go_enter Tryz.func124,Tryz.ntmps124
 go_wp2
 refine wp_region_v (by kernel_rfl) [[], [(3, 0)], [(4, 1)], [], [(6, 3)], [(7, 4)], [(5, 2), (8, 5)]] [[], [0], [0, 1], [], [3], [3, 4], [0, 1, 2, 3, 4, 5]]
  [λv _=>v = .pointer (some ⟨w.heap.size,0,none⟩),λv _=>v = .bool b,λv _=>v = .bool (!b),λv _=>v = .pointer (some ⟨w.heap.size,1,none⟩),λv _=>v = .slice A n c,λv w'=>Words w' v (Am z.natAbs),λv w'=>∃b A n c,v = .agg #[.bool b,.slice A n c]/\IsInt w' (.bool b) (.slice A n c) (-z)]
  rfl (by kernel_rfl) (by kernel_rfl) ?stab ?steps ?fin
 case stab=>exact .cons (Stab.eq _) (.cons (Stab.eq _) (.cons (Stab.eq _) (.cons (Stab.eq _) (.cons (Stab.eq _) (.cons (λ_ _ _ he h=>h.ext he) (.cons (λ_ _ _ he ⟨b,A,n,c,h1,h2⟩=>⟨b,A,n,c,h1,h2.ext he⟩) .nil))))))
 case steps=>
  refine .cons ?s0 (.cons ?s1 (.cons ?s2 (.cons ?s3 (.cons ?s4 (.cons ?s5 (.cons ?s6 .nil))))))
  case s0=>
   intro w' ev hE hk ha hc hf
   have e1:ev (.tmp 1) = .pointer (some ⟨w.heap.size,0,none⟩):=ha 1 (by decide)
   exact Ag (by simp [execOp,e1,go_sem]) rfl
  case s1=>
   intro w' ev hE hk ha hc hf
   have e3:ev (.tmp 3) = .pointer (some ⟨w.heap.size,0,none⟩):=hk.1 _ rfl
   have c0:w'.cell? ⟨w.heap.size,0,none⟩=some (.bool b):=hE.cellv (by simp)
   exact Ag (by simp [execOp,e3,c0,go_sem]) rfl
  case s2=>
   intro w' ev hE hk ha hc hf
   have e4:ev (.tmp 4) = .bool b:=hk.1 _ rfl
   exact Ag (by simp [execOp,e4,go_sem]) rfl
  case s3=>
   intro w' ev hE hk ha hc hf
   have e1:ev (.tmp 1) = .pointer (some ⟨w.heap.size,0,none⟩):=ha 1 (by decide)
   exact Ag (by simp [execOp,e1,go_sem]) rfl
  case s4=>
   intro w' ev hE hk ha hc hf
   have e6:ev (.tmp 6) = .pointer (some ⟨w.heap.size,1,none⟩):=hk.1 _ rfl
   have c0:w'.cell? ⟨w.heap.size,1,none⟩=some (.slice A n c):=hE.cellv (by simp)
   exact Ag (by simp [execOp,e6,c0,go_sem]) rfl
  case s5=>
   intro w' ev hE hk ha hc hf
   have e7:ev (.tmp 7) = .slice A n c:=hk.1 _ rfl
   refine Aw (by simp [execOp,resolve,invoke,e7,hf,go_sem]) (Ii _ _ _ (h.out.2.ext ((((Ext.refl _).alloc _).alloc _).drew.trans hE)) (by have:=hn.out;omega)) ?_
   rintro e w1 ⟨v1,rfl,hW1,hE1⟩
   exact ⟨v1,rfl,hE1,hW1⟩
  case s6=>
   intro w' ev hE hk ha hc hf
   have e5:ev (.tmp 5) = .bool (!b):=hk.1 _ rfl
   have e8:Words w' (ev (.tmp 8)) (Am z.natAbs):=hk.2.1 _ rfl
   refine Aw (by simp [execOp,resolve,invoke,e5,hf,go_sem]) (Ca (!b) _ _ _ e8) ?_
   rintro e w1 ⟨b1,A1,n1,k1,rfl,hI1,hE1⟩
   exact ⟨_,rfl,hE1,b1,A1,n1,k1,rfl,by rw [Ao] at hI1;rw [<-h.out.neg_eq];exact hI1⟩
 case fin=>
  intro g w' hE hF
  obtain ⟨b2,A2,n2,k2,e2,hI2⟩:=hF 6 _ rfl
  simp only [List.length_cons,List.length_nil,Nat.reduceAdd,List.drop_succ_cons,List.drop_zero,List.take_succ_cons,List.take_zero,CM,Act.put,List.setIfInBounds_toArray,List.set_cons_succ,List.set_cons_zero,e2]
  clear hF e2
  replace hI2:=Ac hI2
  obtain ⟨hcell,hfr⟩:=hE.cells
  replace hE:=Ac hE
  go_wp2
  refine bodyPost_ret (v:=.agg #[.bool b2,.slice A2 n2 k2]) (by simp [results,Tryz.results124,go_sem,hcell]) rfl ⟨_,_,_,_,rfl,?_,?_⟩
  .have ht:Ty w' (w.heap.size+1) 40:=by simpa using (Ty.new (w.alloc (.cells #[Value.bool b, Value.slice A n c] 40)) _ _).ext ((Ext.refl _).drew.trans hE.out)
   exact (hI2.out.set ht (by decide) _).set (ht.set _ _) (by decide) _
  .exact (((((Ext.refl _).alloc _).alloc _).drew.trans hE.out).set (by simp) _).set (by simp) _
theorem Ue(x y:Int):Ge (!(decide (x<0)==decide (y<0))) (x.natAbs*y.natAbs)=x*y:=by
 have h:=Je (z:=x)
 have h':=Je (z:=y)
 generalize decide (x<0)=p at *
 generalize decide (y<0)=q at *
 generalize x.natAbs=m at *
 generalize y.natAbs=n at *
 subst h;subst h'
 cases p<;>cases q<;>simp [Ge,Int.natCast_mul,Int.neg_mul,Int.mul_neg]
theorem OY(b b':Bool)(A A':Option Addr)(n c n' c':Nat)(x y:Int)(w:World)(h:IsInt w (.bool b) (.slice A n c) x)(h':IsInt w (.bool b') (.slice A' n' c') y)(hn:(Am x.natAbs).length<=4398046511104)(hn':(Am y.natAbs).length<=4398046511104) :
  Calls Tryz.prog 123 #[.agg #[.bool b,.slice A n c],.agg #[.bool b',.slice A' n' c']] w (Dd (x*y) w):=by
 replace h:=Ac h
 replace h':=Ac h'
 replace hn:=Ac hn
 replace hn':=Ac hn'
 go_enter Tryz.func123,Tryz.ntmps123
 go_wp2
 refine wp_region_v (by kernel_rfl) [[], [(5, 0)], [], [(7, 2)], [(6, 1), (8, 3)], [], [(10, 5)], [], [(12, 7)], [(11, 6), (13, 8)], [(9, 4), (14, 9)]] [[], [0], [], [2], [0, 1, 2, 3], [], [5], [], [7], [5, 6, 7, 8], [0, 1, 2, 3, 4, 5, 6, 7, 8, 9]]
  [λv _=>v = .pointer (some ⟨w.heap.size,0,none⟩),λv _=>v = .bool b,λv _=>v = .pointer (some ⟨w.heap.size+1,0,none⟩),λv _=>v = .bool b',λv _=>v = .bool (!(b==b')),λv _=>v = .pointer (some ⟨w.heap.size,1,none⟩),λv _=>v = .slice A n c,λv _=>v = .pointer (some ⟨w.heap.size+1,1,none⟩),λv _=>v = .slice A' n' c',λv w'=>Words w' v (Am (val (Am x.natAbs)*val (Am y.natAbs))),λv w'=>∃b A n c,v = .agg #[.bool b,.slice A n c]/\IsInt w' (.bool b) (.slice A n c) (x*y)]
  rfl (by kernel_rfl) (by kernel_rfl) ?stab ?steps ?fin
 case stab=>exact .cons (Stab.eq _) (.cons (Stab.eq _) (.cons (Stab.eq _) (.cons (Stab.eq _) (.cons (Stab.eq _) (.cons (Stab.eq _) (.cons (Stab.eq _) (.cons (Stab.eq _) (.cons (Stab.eq _) (.cons (λ_ _ _ he h=>h.ext he) (.cons (λ_ _ _ he ⟨b,A,n,c,h1,h2⟩=>⟨b,A,n,c,h1,h2.ext he⟩) .nil))))))))))
 case steps=>
  refine .cons ?s0 (.cons ?s1 (.cons ?s2 (.cons ?s3 (.cons ?s4 (.cons ?s5 (.cons ?s6 (.cons ?s7 (.cons ?s8 (.cons ?s9 (.cons ?s10 .nil))))))))))
  case s0=>
   intro w' ev hE hk ha hc hf
   have e2:ev (.tmp 2) = .pointer (some ⟨w.heap.size,0,none⟩):=ha 2 (by decide)
   exact Ag (by simp [execOp,e2,go_sem]) rfl
  case s1=>
   intro w' ev hE hk ha hc hf
   have e5:ev (.tmp 5) = .pointer (some ⟨w.heap.size,0,none⟩):=hk.1 _ rfl
   have c0:w'.cell? ⟨w.heap.size,0,none⟩=some (.bool b):=hE.cellv (((((Blk.new _ _ _).alloc _).alloc _).drew.cell 0))
   exact Ag (by simp [execOp,e5,c0,go_sem]) rfl
  case s2=>
   intro w' ev hE hk ha hc hf
   have e3:ev (.tmp 3) = .pointer (some ⟨w.heap.size+1,0,none⟩):=ha 3 (by decide)
   exact Ag (by simp [execOp,e3,go_sem]) rfl
  case s3=>
   intro w' ev hE hk ha hc hf
   have e7:ev (.tmp 7) = .pointer (some ⟨w.heap.size+1,0,none⟩):=hk.1 _ rfl
   have c0:w'.cell? ⟨w.heap.size+1,0,none⟩=some (.bool b'):=hE.cellv ((((AW _ _ (by simp)).alloc _).drew.cell 0))
   exact Ag (by simp [execOp,e7,c0,go_sem]) rfl
  case s4=>
   intro w' ev hE hk ha hc hf
   have e6:ev (.tmp 6) = .bool b:=hk.1 _ rfl
   have e8:ev (.tmp 8) = .bool b':=hk.2.1 _ rfl
   exact Ag (by simp [execOp,e6,e8,go_sem]) rfl
  case s5=>
   intro w' ev hE hk ha hc hf
   have e2:ev (.tmp 2) = .pointer (some ⟨w.heap.size,0,none⟩):=ha 2 (by decide)
   exact Ag (by simp [execOp,e2,go_sem]) rfl
  case s6=>
   intro w' ev hE hk ha hc hf
   have e10:ev (.tmp 10) = .pointer (some ⟨w.heap.size,1,none⟩):=hk.1 _ rfl
   have c0:w'.cell? ⟨w.heap.size,1,none⟩=some (.slice A n c):=hE.cellv (((((Blk.new _ _ _).alloc _).alloc _).drew.cell 1))
   exact Ag (by simp [execOp,e10,c0,go_sem]) rfl
  case s7=>
   intro w' ev hE hk ha hc hf
   have e3:ev (.tmp 3) = .pointer (some ⟨w.heap.size+1,0,none⟩):=ha 3 (by decide)
   exact Ag (by simp [execOp,e3,go_sem]) rfl
  case s8=>
   intro w' ev hE hk ha hc hf
   have e12:ev (.tmp 12) = .pointer (some ⟨w.heap.size+1,1,none⟩):=hk.1 _ rfl
   have c0:w'.cell? ⟨w.heap.size+1,1,none⟩=some (.slice A' n' c'):=hE.cellv ((((AW _ _ (by simp)).alloc _).drew.cell 1))
   exact Ag (by simp [execOp,e12,c0,go_sem]) rfl
  case s9=>
   intro w' ev hE hk ha hc hf
   have e11:ev (.tmp 11) = .slice A n c:=hk.1 _ rfl
   have e13:ev (.tmp 13) = .slice A' n' c':=hk.2.1 _ rfl
   refine Aw (by simp [execOp,resolve,invoke,hf,e11,e13,go_sem]) (QD _ _ _ _ _ (h.out.2.ext (((((Ext.refl _).alloc _).alloc _).alloc _).drew.trans hE)) (h'.out.2.ext (((((Ext.refl _).alloc _).alloc _).alloc _).drew.trans hE)) hn.out hn'.out) ?_
   rintro e w1 ⟨v1,rfl,hW1,hE1⟩
   exact ⟨v1,rfl,hE1,hW1⟩
  case s10=>
   intro w' ev hE hk ha hc hf
   have e9:ev (.tmp 9) = .bool (!(b==b')):=hk.1 _ rfl
   have f14:=hk.2.1 _ rfl
   refine Aw (by simp [execOp,resolve,invoke,hf,e9,go_sem]) (Ca (!(b==b')) _ _ _ f14) ?_
   rintro e w1 ⟨b1,A1,n1,k1,rfl,hI1,hE1⟩
   exact ⟨_,rfl,hE1,b1,A1,n1,k1,rfl,by rw [Ao,Ao,Ao,h.out.bool_eq,h'.out.bool_eq,Ue] at hI1;exact hI1⟩
 case fin=>
  intro g w' hE hF
  obtain ⟨b2,A2,n2,k2,e2,hI2⟩:=hF 10 _ rfl
  simp only [List.length_cons,List.length_nil,Nat.reduceAdd,List.drop_succ_cons,List.drop_zero,List.take_succ_cons,List.take_zero,CM,Act.put,List.setIfInBounds_toArray,List.set_cons_succ,List.set_cons_zero,e2]
  clear hF e2
  replace hI2:=Ac hI2
  obtain ⟨hcell,hfr⟩:=hE.cells
  replace hE:=Ac hE
  go_wp2
  refine bodyPost_ret (v:=.agg #[.bool b2,.slice A2 n2 k2]) (by simp [results,Tryz.results123,go_sem,hcell]) rfl ⟨_,_,_,_,rfl,?_,?_⟩
  .have ht:Ty w' (w.heap.size+2) 40:=(Br _ _ (by simp)).drew.ext hE.out
   exact (hI2.out.set ht (by decide) _).set (ht.set _ _) (by decide) _
  .exact ((((((Ext.refl _).alloc _).alloc _).alloc _).drew.trans hE.out).set (by simp<;>omega) _).set (by simp<;>omega) _
theorem Jf{x y:Int}(h:decide (x<0)=decide (y<0)):Ge (decide (x<0)) (x.natAbs+y.natAbs)=x+y:=by
 by_cases hx:x<0<;>by_cases hy:y<0<;>simp [hx,hy] at h<;>simp [Ge,hx]<;>omega
theorem LH{x y:Int}(h:¬decide (x<0)=decide (y<0))(hle:y.natAbs<=x.natAbs):Ge (decide (x<0)) (x.natAbs-y.natAbs)=x+y:=by
 by_cases hx:x<0<;>by_cases hy:y<0<;>simp [hx,hy] at h<;>simp [Ge,hx]<;>omega
theorem LG{x y:Int}(h:¬decide (x<0)=decide (y<0))(hle:x.natAbs<=y.natAbs):Ge (decide (y<0)) (y.natAbs-x.natAbs)=x+y:=by
 by_cases hx:x<0<;>by_cases hy:y<0<;>simp [hx,hy] at h<;>simp [Ge,hy]<;>omega
theorem Zo(b b':Bool)(A A':Option Addr)(n c n' c':Nat)(x y:Int)(w:World)(h:IsInt w (.bool b) (.slice A n c) x)(h':IsInt w (.bool b') (.slice A' n' c') y)(hn:(Am x.natAbs).length<=4398046511104)(hn':(Am y.natAbs).length<=4398046511104)(hb:b=b') :
  Calls Tryz.prog 125 #[.agg #[.bool b,.slice A n c],.agg #[.bool b',.slice A' n' c']] w (Dd (x+y) w):=by
 have hd:=Ac h.bool_eq
 have hd':=Ac h'.bool_eq
 replace h:=Ac h
 replace h':=Ac h'
 replace hn:=Ac hn
 replace hn':=Ac hn'
 have hbb:(b==b')=true:=by simpa using hb
 replace hb:=Ac hb
 go_enter Tryz.func125,Tryz.ntmps125
 go_wp2
 refine wp_region_v (by kernel_rfl) [[], [(10, 0)], [], [(12, 2)], [], [(14, 4)], [(13, 3), (15, 5)], [(11, 1), (16, 6)]] [[], [0], [], [2], [], [4], [2, 3, 4, 5], [0, 1, 2, 3, 4, 5, 6]]
  [λv _=>v = .pointer (some ⟨w.heap.size,0,none⟩),λv _=>v = .bool b,λv _=>v = .pointer (some ⟨w.heap.size,1,none⟩),λv _=>v = .slice A n c,λv _=>v = .pointer (some ⟨w.heap.size+1,1,none⟩),λv _=>v = .slice A' n' c',λv w'=>Words w' v (Am (val (Am x.natAbs)+val (Am y.natAbs))),λv w'=>∃b A n c,v = .agg #[.bool b,.slice A n c]/\IsInt w' (.bool b) (.slice A n c) (x+y)]
  rfl (by kernel_rfl) (by kernel_rfl) ?stab ?steps ?fin
 case stab=>exact .cons (Stab.eq _) (.cons (Stab.eq _) (.cons (Stab.eq _) (.cons (Stab.eq _) (.cons (Stab.eq _) (.cons (Stab.eq _) (.cons (λ_ _ _ he h=>h.ext he) (.cons (λ_ _ _ he ⟨b,A,n,c,h1,h2⟩=>⟨b,A,n,c,h1,h2.ext he⟩) .nil)))))))
 case steps=>
  refine .cons ?s0 (.cons ?s1 (.cons ?s2 (.cons ?s3 (.cons ?s4 (.cons ?s5 (.cons ?s6 (.cons ?s7 .nil)))))))
  case s0=>
   intro w' ev hE hk ha hc hf
   have e2:ev (.tmp 2) = .pointer (some ⟨w.heap.size,0,none⟩):=ha 2 (by decide)
   exact Ag (by simp [execOp,e2,go_sem]) rfl
  case s1=>
   intro w' ev hE hk ha hc hf
   have e10:ev (.tmp 10) = .pointer (some ⟨w.heap.size,0,none⟩):=hk.1 _ rfl
   have c0:w'.cell? ⟨w.heap.size,0,none⟩=some (.bool b):=hE.cellv (((((Blk.new _ _ _).alloc _).alloc _).drew.cell 0))
   exact Ag (by simp [execOp,e10,c0,go_sem]) rfl
  case s2=>
   intro w' ev hE hk ha hc hf
   have e2:ev (.tmp 2) = .pointer (some ⟨w.heap.size,0,none⟩):=ha 2 (by decide)
   exact Ag (by simp [execOp,e2,go_sem]) rfl
  case s3=>
   intro w' ev hE hk ha hc hf
   have e12:ev (.tmp 12) = .pointer (some ⟨w.heap.size,1,none⟩):=hk.1 _ rfl
   have c0:w'.cell? ⟨w.heap.size,1,none⟩=some (.slice A n c):=hE.cellv (((((Blk.new _ _ _).alloc _).alloc _).drew.cell 1))
   exact Ag (by simp [execOp,e12,c0,go_sem]) rfl
  case s4=>
   intro w' ev hE hk ha hc hf
   have e3:ev (.tmp 3) = .pointer (some ⟨w.heap.size+1,0,none⟩):=ha 3 (by decide)
   exact Ag (by simp [execOp,e3,go_sem]) rfl
  case s5=>
   intro w' ev hE hk ha hc hf
   have e14:ev (.tmp 14) = .pointer (some ⟨w.heap.size+1,1,none⟩):=hk.1 _ rfl
   have c0:w'.cell? ⟨w.heap.size+1,1,none⟩=some (.slice A' n' c'):=hE.cellv ((((AW _ _ (by simp)).alloc _).drew.cell 1))
   exact Ag (by simp [execOp,e14,c0,go_sem]) rfl
  case s6=>
   intro w' ev hE hk ha hc hf
   have e13:ev (.tmp 13) = .slice A n c:=hk.1 _ rfl
   have e15:ev (.tmp 15) = .slice A' n' c':=hk.2.1 _ rfl
   refine Aw (by simp [execOp,resolve,invoke,hf,e13,e15,go_sem]) (TX _ _ _ _ _ (h.out.2.ext (((((Ext.refl _).alloc _).alloc _).alloc _).drew.trans hE)) (h'.out.2.ext (((((Ext.refl _).alloc _).alloc _).alloc _).drew.trans hE)) hn.out hn'.out) ?_
   rintro e w1 ⟨v1,rfl,hW1,hE1⟩
   exact ⟨v1,rfl,hE1,hW1⟩
  case s7=>
   intro w' ev hE hk ha hc hf
   have e11:ev (.tmp 11) = .bool b:=hk.1 _ rfl
   have f16:=hk.2.1 _ rfl
   refine Aw (by simp [execOp,resolve,invoke,hf,e11,go_sem]) (Ca b _ _ _ f16) ?_
   rintro e w1 ⟨b1,A1,n1,k1,rfl,hI1,hE1⟩
   exact ⟨_,rfl,hE1,b1,A1,n1,k1,rfl,by have hb:=hb.out;rw [hd.out,hd'.out] at hb;rw [Ao,Ao,Ao,hd.out,Jf hb] at hI1;exact hI1⟩
 case fin=>
  intro g w' hE hF
  obtain ⟨b2,A2,n2,k2,e2,hI2⟩:=hF 7 _ rfl
  simp only [List.length_cons,List.length_nil,Nat.reduceAdd,List.drop_succ_cons,List.drop_zero,List.take_succ_cons,List.take_zero,CM,Act.put,List.setIfInBounds_toArray,List.set_cons_succ,List.set_cons_zero,e2]
  clear hF e2
  replace hI2:=Ac hI2
  obtain ⟨hcell,hfr⟩:=hE.cells
  replace hE:=Ac hE
  go_wp2
  refine bodyPost_ret (v:=.agg #[.bool b2,.slice A2 n2 k2]) (by simp [results,Tryz.results125,go_sem,hcell]) rfl ⟨_,_,_,_,rfl,?_,?_⟩
  .have ht:Ty w' (w.heap.size+2) 40:=(Br _ _ (by simp)).drew.ext hE.out
   exact (hI2.out.set ht (by decide) _).set (ht.set _ _) (by decide) _
  .exact ((((((Ext.refl _).alloc _).alloc _).alloc _).drew.trans hE.out).set (by simp<;>omega) _).set (by simp<;>omega) _
theorem A2v(b b':Bool)(A A':Option Addr)(n c n' c':Nat)(x y:Int)(w:World)(h:IsInt w (.bool b) (.slice A n c) x)(h':IsInt w (.bool b') (.slice A' n' c') y)(hn:(Am x.natAbs).length<=4398046511104)(hn':(Am y.natAbs).length<=4398046511104)(hb:¬b=b')(hle:y.natAbs<=x.natAbs) :
  Calls Tryz.prog 125 #[.agg #[.bool b,.slice A n c],.agg #[.bool b',.slice A' n' c']] w (Dd (x+y) w):=by
 have hd:=Ac h.bool_eq
 have hd':=Ac h'.bool_eq
 replace h:=Ac h
 replace h':=Ac h'
 replace hn:=Ac hn
 replace hn':=Ac hn'
 have hbb:(b==b')=false:=by simpa using hb
 replace hb:=Ac hb
 have hcmp:0<=Df x.natAbs y.natAbs:=by
  unfold Df
  rw [if_neg (by omega)];split<;>omega
 replace hle:=Ac hle
 go_enter Tryz.func125,Tryz.ntmps125
 go_wp2_with (go_at_call 121;refine (Ek _ _ _ _ _ (h.out.2.ext ((((Ext.refl _).alloc _).alloc _).alloc _)) (h'.out.2.ext ((((Ext.refl _).alloc _).alloc _).alloc _))).mono ?_;rintro e w1 ⟨rfl,hE0⟩;replace hE0:=Ac hE0;obtain ⟨hc0,hf0⟩:=hE0.out.cells)
 refine wp_region_v (by kernel_rfl) [[], [(24, 0)], [], [(26, 2)], [], [(28, 4)], [(27, 3), (29, 5)], [(25, 1), (30, 6)]] [[], [0], [], [2], [], [4], [2, 3, 4, 5], [0, 1, 2, 3, 4, 5, 6]]
  [λv _=>v = .pointer (some ⟨w.heap.size,0,none⟩),λv _=>v = .bool b,λv _=>v = .pointer (some ⟨w.heap.size,1,none⟩),λv _=>v = .slice A n c,λv _=>v = .pointer (some ⟨w.heap.size+1,1,none⟩),λv _=>v = .slice A' n' c',λv w'=>Words w' v (Am (val (Am x.natAbs)-val (Am y.natAbs))),λv w'=>∃b A n c,v = .agg #[.bool b,.slice A n c]/\IsInt w' (.bool b) (.slice A n c) (x+y)]
  rfl (by kernel_rfl) (by kernel_rfl) ?stab ?steps ?fin
 case stab=>exact .cons (Stab.eq _) (.cons (Stab.eq _) (.cons (Stab.eq _) (.cons (Stab.eq _) (.cons (Stab.eq _) (.cons (Stab.eq _) (.cons (λ_ _ _ he h=>h.ext he) (.cons (λ_ _ _ he ⟨b,A,n,c,h1,h2⟩=>⟨b,A,n,c,h1,h2.ext he⟩) .nil)))))))
 case steps=>
  refine .cons ?s0 (.cons ?s1 (.cons ?s2 (.cons ?s3 (.cons ?s4 (.cons ?s5 (.cons ?s6 (.cons ?s7 .nil)))))))
  case s0=>
   intro w' ev hE hk ha hc hf
   have e2:ev (.tmp 2) = .pointer (some ⟨w.heap.size,0,none⟩):=ha 2 (by decide)
   exact Ag (by simp [execOp,e2,go_sem]) rfl
  case s1=>
   intro w' ev hE hk ha hc hf
   have e24:ev (.tmp 24) = .pointer (some ⟨w.heap.size,0,none⟩):=hk.1 _ rfl
   have c0:w'.cell? ⟨w.heap.size,0,none⟩=some (.bool b):=hE.cellv ((hE0.out.cellv (((Blk.new _ _ _).alloc _).alloc _ |>.cell 0)))
   exact Ag (by simp [execOp,e24,c0,go_sem]) rfl
  case s2=>
   intro w' ev hE hk ha hc hf
   have e2:ev (.tmp 2) = .pointer (some ⟨w.heap.size,0,none⟩):=ha 2 (by decide)
   exact Ag (by simp [execOp,e2,go_sem]) rfl
  case s3=>
   intro w' ev hE hk ha hc hf
   have e26:ev (.tmp 26) = .pointer (some ⟨w.heap.size,1,none⟩):=hk.1 _ rfl
   have c0:w'.cell? ⟨w.heap.size,1,none⟩=some (.slice A n c):=hE.cellv ((hE0.out.cellv (((Blk.new _ _ _).alloc _).alloc _ |>.cell 1)))
   exact Ag (by simp [execOp,e26,c0,go_sem]) rfl
  case s4=>
   intro w' ev hE hk ha hc hf
   have e3:ev (.tmp 3) = .pointer (some ⟨w.heap.size+1,0,none⟩):=ha 3 (by decide)
   exact Ag (by simp [execOp,e3,go_sem]) rfl
  case s5=>
   intro w' ev hE hk ha hc hf
   have e28:ev (.tmp 28) = .pointer (some ⟨w.heap.size+1,1,none⟩):=hk.1 _ rfl
   have c0:w'.cell? ⟨w.heap.size+1,1,none⟩=some (.slice A' n' c'):=hE.cellv ((hE0.out.cellv ((AW _ _ (by simp)).alloc _ |>.cell 1)))
   exact Ag (by simp [execOp,e28,c0,go_sem]) rfl
  case s6=>
   intro w' ev hE hk ha hc hf
   have e27:ev (.tmp 27) = .slice A n c:=hk.1 _ rfl
   have e29:ev (.tmp 29) = .slice A' n' c':=hk.2.1 _ rfl
   refine Aw (by simp [execOp,resolve,invoke,hf,e27,e29,go_sem]) (FH _ _ _ _ _ (h.out.2.ext ((((Ext.refl _).alloc _).alloc _).alloc _ |>.trans (hE0.out.trans ((Ext.refl _).drew.trans hE)))) (h'.out.2.ext ((((Ext.refl _).alloc _).alloc _).alloc _ |>.trans (hE0.out.trans ((Ext.refl _).drew.trans hE)))) (by rw [Ao,Ao];exact hle.out) (BI hle.out) hn.out) ?_
   rintro e w1 ⟨v1,rfl,hW1,hE1⟩
   exact ⟨v1,rfl,hE1,hW1⟩
  case s7=>
   intro w' ev hE hk ha hc hf
   have e25:ev (.tmp 25) = .bool b:=hk.1 _ rfl
   have f30:=hk.2.1 _ rfl
   refine Aw (by simp [execOp,resolve,invoke,hf,e25,go_sem]) (Ca b _ _ _ f30) ?_
   rintro e w1 ⟨b1,A1,n1,k1,rfl,hI1,hE1⟩
   exact ⟨_,rfl,hE1,b1,A1,n1,k1,rfl,by have hb:=hb.out;rw [hd.out,hd'.out] at hb;rw [Ao,Ao,Ao,hd.out,LH hb hle.out] at hI1;exact hI1⟩
 case fin=>
  intro g w' hE hF
  obtain ⟨b2,A2,n2,k2,e2,hI2⟩:=hF 7 _ rfl
  simp only [List.length_cons,List.length_nil,Nat.reduceAdd,List.drop_succ_cons,List.drop_zero,List.take_succ_cons,List.take_zero,CM,Act.put,List.setIfInBounds_toArray,List.set_cons_succ,List.set_cons_zero,e2]
  clear hF e2
  replace hI2:=Ac hI2
  replace hE:=hE0.out.trans ((Ext.refl _).drew.trans hE)
  obtain ⟨hcell,hfr⟩:=hE.cells
  replace hE:=Ac hE
  clear hc0 hf0
  go_wp2
  refine bodyPost_ret (v:=.agg #[.bool b2,.slice A2 n2 k2]) (by simp [results,Tryz.results125,go_sem,hcell]) rfl ⟨_,_,_,_,rfl,?_,?_⟩
  .have ht:Ty w' (w.heap.size+2) 40:=(Br _ _ (by simp)).ext hE.out
   exact (hI2.out.set ht (by decide) _).set (ht.set _ _) (by decide) _
  .exact (((((Ext.refl _).alloc _).alloc _).alloc _ |>.trans hE.out).set (by simp<;>omega) _).set (by simp<;>omega) _
theorem A2u(b b':Bool)(A A':Option Addr)(n c n' c':Nat)(x y:Int)(w:World)(h:IsInt w (.bool b) (.slice A n c) x)(h':IsInt w (.bool b') (.slice A' n' c') y)(hn:(Am x.natAbs).length<=4398046511104)(hn':(Am y.natAbs).length<=4398046511104)(hb:¬b=b')(hle:x.natAbs<y.natAbs) :
  Calls Tryz.prog 125 #[.agg #[.bool b,.slice A n c],.agg #[.bool b',.slice A' n' c']] w (Dd (x+y) w):=by
 have hd:=Ac h.bool_eq
 have hd':=Ac h'.bool_eq
 replace h:=Ac h
 replace h':=Ac h'
 replace hn:=Ac hn
 replace hn':=Ac hn'
 have hbb:(b==b')=false:=by simpa using hb
 replace hb:=Ac hb
 have hcmp:Df x.natAbs y.natAbs<0:=by
  unfold Df
  rw [if_pos hle];omega
 replace hle:=Ac hle
 go_enter Tryz.func125,Tryz.ntmps125
 go_wp2_with (go_at_call 121;refine (Ek _ _ _ _ _ (h.out.2.ext ((((Ext.refl _).alloc _).alloc _).alloc _)) (h'.out.2.ext ((((Ext.refl _).alloc _).alloc _).alloc _))).mono ?_;rintro e w1 ⟨rfl,hE0⟩;replace hE0:=Ac hE0;obtain ⟨hc0,hf0⟩:=hE0.out.cells)
 refine wp_region_v (by kernel_rfl) [[], [(32, 0)], [], [(34, 2)], [], [(36, 4)], [(35, 3), (37, 5)], [(33, 1), (38, 6)]] [[], [0], [], [2], [], [4], [2, 3, 4, 5], [0, 1, 2, 3, 4, 5, 6]]
  [λv _=>v = .pointer (some ⟨w.heap.size+1,0,none⟩),λv _=>v = .bool b',λv _=>v = .pointer (some ⟨w.heap.size+1,1,none⟩),λv _=>v = .slice A' n' c',λv _=>v = .pointer (some ⟨w.heap.size,1,none⟩),λv _=>v = .slice A n c,λv w'=>Words w' v (Am (val (Am y.natAbs)-val (Am x.natAbs))),λv w'=>∃b A n c,v = .agg #[.bool b,.slice A n c]/\IsInt w' (.bool b) (.slice A n c) (x+y)]
  rfl (by kernel_rfl) (by kernel_rfl) ?stab ?steps ?fin
 case stab=>exact .cons (Stab.eq _) (.cons (Stab.eq _) (.cons (Stab.eq _) (.cons (Stab.eq _) (.cons (Stab.eq _) (.cons (Stab.eq _) (.cons (λ_ _ _ he h=>h.ext he) (.cons (λ_ _ _ he ⟨b,A,n,c,h1,h2⟩=>⟨b,A,n,c,h1,h2.ext he⟩) .nil)))))))
 case steps=>
  refine .cons ?s0 (.cons ?s1 (.cons ?s2 (.cons ?s3 (.cons ?s4 (.cons ?s5 (.cons ?s6 (.cons ?s7 .nil)))))))
  case s0=>
   intro w' ev hE hk ha hc hf
   have e3:ev (.tmp 3) = .pointer (some ⟨w.heap.size+1,0,none⟩):=ha 3 (by decide)
   exact Ag (by simp [execOp,e3,go_sem]) rfl
  case s1=>
   intro w' ev hE hk ha hc hf
   have e32:ev (.tmp 32) = .pointer (some ⟨w.heap.size+1,0,none⟩):=hk.1 _ rfl
   have c0:w'.cell? ⟨w.heap.size+1,0,none⟩=some (.bool b'):=hE.cellv ((hE0.out.cellv ((AW _ _ (by simp)).alloc _ |>.cell 0)))
   exact Ag (by simp [execOp,e32,c0,go_sem]) rfl
  case s2=>
   intro w' ev hE hk ha hc hf
   have e3:ev (.tmp 3) = .pointer (some ⟨w.heap.size+1,0,none⟩):=ha 3 (by decide)
   exact Ag (by simp [execOp,e3,go_sem]) rfl
  case s3=>
   intro w' ev hE hk ha hc hf
   have e34:ev (.tmp 34) = .pointer (some ⟨w.heap.size+1,1,none⟩):=hk.1 _ rfl
   have c0:w'.cell? ⟨w.heap.size+1,1,none⟩=some (.slice A' n' c'):=hE.cellv ((hE0.out.cellv ((AW _ _ (by simp)).alloc _ |>.cell 1)))
   exact Ag (by simp [execOp,e34,c0,go_sem]) rfl
  case s4=>
   intro w' ev hE hk ha hc hf
   have e2:ev (.tmp 2) = .pointer (some ⟨w.heap.size,0,none⟩):=ha 2 (by decide)
   exact Ag (by simp [execOp,e2,go_sem]) rfl
  case s5=>
   intro w' ev hE hk ha hc hf
   have e36:ev (.tmp 36) = .pointer (some ⟨w.heap.size,1,none⟩):=hk.1 _ rfl
   have c0:w'.cell? ⟨w.heap.size,1,none⟩=some (.slice A n c):=hE.cellv ((hE0.out.cellv (((Blk.new _ _ _).alloc _).alloc _ |>.cell 1)))
   exact Ag (by simp [execOp,e36,c0,go_sem]) rfl
  case s6=>
   intro w' ev hE hk ha hc hf
   have e35:ev (.tmp 35) = .slice A' n' c':=hk.1 _ rfl
   have e37:ev (.tmp 37) = .slice A n c:=hk.2.1 _ rfl
   refine Aw (by simp [execOp,resolve,invoke,hf,e35,e37,go_sem]) (FH _ _ _ _ _ (h'.out.2.ext ((((Ext.refl _).alloc _).alloc _).alloc _ |>.trans (hE0.out.trans ((Ext.refl _).drew.trans hE)))) (h.out.2.ext ((((Ext.refl _).alloc _).alloc _).alloc _ |>.trans (hE0.out.trans ((Ext.refl _).drew.trans hE)))) (by rw [Ao,Ao];exact Nat.le_of_lt hle.out) (BI (Nat.le_of_lt hle.out)) hn'.out) ?_
   rintro e w1 ⟨v1,rfl,hW1,hE1⟩
   exact ⟨v1,rfl,hE1,hW1⟩
  case s7=>
   intro w' ev hE hk ha hc hf
   have e33:ev (.tmp 33) = .bool b':=hk.1 _ rfl
   have f38:=hk.2.1 _ rfl
   refine Aw (by simp [execOp,resolve,invoke,hf,e33,go_sem]) (Ca b' _ _ _ f38) ?_
   rintro e w1 ⟨b1,A1,n1,k1,rfl,hI1,hE1⟩
   exact ⟨_,rfl,hE1,b1,A1,n1,k1,rfl,by have hb:=hb.out;rw [hd.out,hd'.out] at hb;rw [Ao,Ao,Ao,hd'.out,LG hb (Nat.le_of_lt hle.out)] at hI1;exact hI1⟩
 case fin=>
  intro g w' hE hF
  obtain ⟨b2,A2,n2,k2,e2,hI2⟩:=hF 7 _ rfl
  simp only [List.length_cons,List.length_nil,Nat.reduceAdd,List.drop_succ_cons,List.drop_zero,List.take_succ_cons,List.take_zero,CM,Act.put,List.setIfInBounds_toArray,List.set_cons_succ,List.set_cons_zero,e2]
  clear hF e2
  replace hI2:=Ac hI2
  replace hE:=hE0.out.trans ((Ext.refl _).drew.trans hE)
  obtain ⟨hcell,hfr⟩:=hE.cells
  replace hE:=Ac hE
  clear hc0 hf0
  go_wp2
  refine bodyPost_ret (v:=.agg #[.bool b2,.slice A2 n2 k2]) (by simp [results,Tryz.results125,go_sem,hcell]) rfl ⟨_,_,_,_,rfl,?_,?_⟩
  .have ht:Ty w' (w.heap.size+2) 40:=(Br _ _ (by simp)).ext hE.out
   exact (hI2.out.set ht (by decide) _).set (ht.set _ _) (by decide) _
  .exact (((((Ext.refl _).alloc _).alloc _).alloc _ |>.trans hE.out).set (by simp<;>omega) _).set (by simp<;>omega) _
theorem A12(b b':Bool)(A A':Option Addr)(n c n' c':Nat)(x y:Int)(w:World)(h:IsInt w (.bool b) (.slice A n c) x)(h':IsInt w (.bool b') (.slice A' n' c') y)(hn:(Am x.natAbs).length<=4398046511104)(hn':(Am y.natAbs).length<=4398046511104) :
  Calls Tryz.prog 125 #[.agg #[.bool b,.slice A n c],.agg #[.bool b',.slice A' n' c']] w (Dd (x+y) w):=by
 by_cases hb:b=b'
 .exact Zo b b' A A' n c n' c' x y w h h' hn hn' hb
 .rcases Nat.lt_or_ge x.natAbs y.natAbs with hl | hl
  .exact A2u b b' A A' n c n' c' x y w h h' hn hn' hb hl
  .exact A2v b b' A A' n c n' c' x y w h h' hn hn' hb hl
theorem DO(v:Value)(l:List Nat)(w:World)(h:Words w v l) :
  Calls Tryz.prog 103 #[v] w λe w'=>∃v',e = .returned v'/\Words w' v' (CL l)/\Ext w w':=by
 obtain ⟨A,c,rfl,hc,hm,hx⟩:=h.open_
 have H:=Ac h
 have hs:=Ac h.small
 clear h
 have hA:=Ac hx
 clear hx
 obtain ⟨n,hn⟩:∃n,n=l.length:=⟨_,rfl⟩
 rw [<-hn] at hc ⊢
 have hn':=Ac hn
 clear hn
 go_enter Tryz.func103,Tryz.ntmps103
 go_wp2
 go_loop [3] (λt=>∃k:Nat,k<=n/\t = .int .i64 k/\Hid (CL l=CL (l.take k))) (λt=>(intOf t).toNat)
 case atStart=>exact ⟨n,Nat.le_refl _,rfl,by rw [hn'.out,List.take_length];rfl⟩
 case round=>
  obtain ⟨k,hk,rfl,hR⟩:=hrel
  by_cases hk0:k=0
  .subst hk0
   go_wp2
   go_ret
   refine ⟨_,rfl,?_,Ext.refl _⟩
   have h2:=H.out.take (k:=0) (Nat.zero_le _)
   rw [hR.out]
   exact h2
  .have hlt:0<k:=by omega
   obtain ⟨b,o,rfl,hb,hcell⟩:=hA.out (by rw [<-hn'.out];omega)
   have hcell:=hcell (k-1) (by rw [<-hn'.out];omega)
   have hki:((k:Int)-1).toNat=k-1:=by omega
   by_cases hz:l.getD (k-1) 0=0
   .rw [hz] at hcell
    have hz:=Ac hz
    go_wp2
    go_round
    case rel => exact ⟨k - 1, by omega, by go_num, by
     have h2:k-1<l.length:=by rw [<-hn'.out];omega
     have h3:l[k-1]=0:=by have:=hz.out;simpa [h2] using this
     have h4:=Lt h2 h3
     rw [show k-1+1=k by omega] at h4
     exact hR.out.trans h4⟩
    case measure=>simp [intOf];omega
   .have hz':((l.getD (k-1) 0:Nat):Int)≠0:=by omega
    generalize hx:l.getD (k-1) 0=x at *
    have hx:=Ac hx
    have hzb:((x:Int)==0)=false:=by simpa using hz
    go_wp2
    go_ret
    refine ⟨_,rfl,?_,Ext.refl _⟩
    have h2:=H.out.take (k:=k) (by rw [<-hn'.out];omega)
    have h2':k-1<l.length:=by rw [<-hn'.out];omega
    have h3:l[k-1]≠0:=by have:=hx.out;simp [h2'] at this;omega
    have h4:=In h2' h3
    rw [show k-1+1=k by omega] at h4
    rw [hR.out,h4]
    exact h2
theorem Cy(neg:Bool)(v:Value)(l:List Nat)(w:World)(h:Words w v l) :
  Calls Tryz.prog 76 #[.bool neg,v] w λe w'=>Dd (Ge neg (val l)) w e w':=by
 have hs:=Ac h.small
 have H:=Ac h
 clear h
 go_enter Tryz.func76,Tryz.ntmps76
 go_wp2_with fail
 refine (DO _ _ _ (H.out.ext ((Ext.refl _).alloc _))).mono ?_
 rintro e w1 ⟨v',rfl,hv',hE⟩
 rw [AM hs.out] at hv'
 obtain ⟨A,c,rfl,hc,hm,hx⟩:=hv'.open_
 replace hx:=Ac hx
 obtain ⟨hcell,hfr⟩:=hE.cells
 by_cases h0:(Am (val l)).length=0
 .have hv0:=Ac (AT.1 h0)
  generalize hn:(Am (val l)).length=n at *
  subst h0
  replace hn:=Ac hn
  have hd:Hid (Am (val l)=[]):=by rw [hv0.out];exact Bo
  rw [hd.out] at hv'
  replace hv':=Ac hv'
  cases neg with
  | false=>
   go_wp2
   refine bodyPost_ret (v:=.agg #[.bool false,.slice A 0 c]) (by simp [results,Tryz.results76,go_sem,hcell]) rfl ⟨_,_,_,_,rfl,⟨?_,?_⟩,?_⟩
   .rw [hv0.out,Gp];rfl
   .rw [hv0.out,Gp]
    show Words _ _ (Am 0)
    rw [Bo]
    have ht:=(Ty.new w #[Value.bool false,Value.slice none 0 0] 40).ext hE
    exact (hv'.out.set ht (by decide) _).set (ht.set _ _) (by decide) _
   .exact ((((Ext.refl _).alloc _).trans hE).set (Nat.le_refl _) _).set (Nat.le_refl _) _
  | true=>
   go_wp2
   refine bodyPost_ret (v:=.agg #[.bool false,.slice A 0 c]) (by simp [results,Tryz.results76,go_sem,hcell]) rfl ⟨_,_,_,_,rfl,⟨?_,?_⟩,?_⟩
   .rw [hv0.out,Gp];rfl
   .rw [hv0.out,Gp]
    show Words _ _ (Am 0)
    rw [Bo]
    have ht:=(Ty.new w #[Value.bool false,Value.slice none 0 0] 40).ext hE
    exact (hv'.out.set ht (by decide) _).set (ht.set _ _) (by decide) _
   .exact ((((Ext.refl _).alloc _).trans hE).set (Nat.le_refl _) _).set (Nat.le_refl _) _
 .have hv0:=Ac (λe=>h0 (AT.2 e))
  have hne:decide ((0:Int)<((Am (val l)).length:Int))=true:=by simp;omega
  have hne2:0<(Am (val l)).length:=by omega
  replace hv':=Ac hv'
  generalize hn:(Am (val l)).length=n at *
  replace hn:=Ac hn
  cases neg with
  | false=>
   go_wp2
   refine bodyPost_ret (v:=.agg #[.bool false,.slice A n c]) (by simp [results,Tryz.results76,go_sem,hcell]) rfl ⟨_,_,_,_,rfl,⟨?_,?_⟩,?_⟩
   .rw [OJ hv0.out]
   .rw [IB]
    have ht:=(Ty.new w #[Value.bool false,Value.slice none 0 0] 40).ext hE
    exact (hv'.out.set ht (by decide) _).set (ht.set _ _) (by decide) _
   .exact ((((Ext.refl _).alloc _).trans hE).set (Nat.le_refl _) _).set (Nat.le_refl _) _
  | true=>
   go_wp2
   refine bodyPost_ret (v:=.agg #[.bool true,.slice A n c]) (by simp [results,Tryz.results76,go_sem,hcell]) rfl ⟨_,_,_,_,rfl,⟨?_,?_⟩,?_⟩
   .rw [OJ hv0.out]
   .rw [IB]
    have ht:=(Ty.new w #[Value.bool false,Value.slice none 0 0] 40).ext hE
    exact (hv'.out.set ht (by decide) _).set (ht.set _ _) (by decide) _
   .exact ((((Ext.refl _).alloc _).trans hE).set (Nat.le_refl _) _).set (Nat.le_refl _) _
theorem WK(v:Value)(l:List Nat)(i:Nat)(w:World)(h:Words w v l) :
  Calls Tryz.prog 127 #[v,.int .i64 i] w λe w'=>e = .returned (.int .u64 (l.getD i 0:Nat))/\w=w':=by
 obtain ⟨A,c,rfl,hc,hm,hx⟩:=h.open_
 have hs:=AD h.small i
 by_cases hi:i<l.length
 .obtain ⟨b, o, rfl, hb, hcell⟩:=hx (by omega)
  replace hcell:=hcell i hi
  clear hx h
  generalize l.getD i 0=x at *
  generalize l.length=n at *
  unfold BB at hs
  have hd:decide ((i:Int)<n)=true:=by simpa using hi
  go_enter Tryz.func127,Tryz.ntmps127
  go_wp2
  go_ret
  exact ⟨rfl,rfl⟩
 .have h0:Hid (l.getD i 0=0):=by simp [show l.length<=i by omega, Hid]
  clear hx h hs
  generalize l.length=n at *
  have hd:decide ((i:Int)<n)=false:=by simp;omega
  go_enter Tryz.func127,Tryz.ntmps127
  go_wp2
  go_ret
  exact ⟨by rw [h0.out];rfl,rfl⟩
theorem Fg(v:Value)(l:List Nat)(i x:Nat)(w:World)(h:Words w v l)(hx:l.getD i 0=x) :
  Calls Tryz.prog 127 #[v,.int .i64 i] w λe w'=>e = .returned (.int .u64 (x:Nat))/\w=w':=by
 subst hx;exact WK v l i w h
theorem FK(m:Nat)(w:World)(hm:m<18446744073709551616) :
  Calls Tryz.prog 78 #[.int .u64 m] w λe w'=>∃v',e = .returned v'/\Words w' v' (Am m)/\Ext w w':=by
 have hW:Words (w.alloc (.cells (wv [m%BB,m/BB]) 108)) (.slice (some ⟨w.heap.size,0,none⟩) 2 2) [m%BB,m/BB]:=
  Bu (l:=[m%BB,m/BB]) (c:=2) (Blk.new _ _ _) (λx hx=>by
   simp at hx
   rcases hx with rfl | rfl
   .exact Nat.mod_lt _ BP
   .exact Nat.div_lt_of_lt_mul (by rw [Bb];omega)) (by simp) (by omega)
 have hv:Hid (val [m%BB,m/BB]=m):=by
  show m%BB+BB*(m/BB+BB*0)=m
  rw [Nat.mul_zero,Nat.add_zero]
  exact Nat.mod_add_div m BB
 have e1:Hid ((w.alloc (.cells (wv [m%BB,m/BB]) 108))=w.alloc (.cells #[.int .u32 ((m:Int)%4294967296),.int .u32 ((m:Int)/4294967296)] 108)):=by
  simp [wv,Bb,Hid]
 have hW2:=Ac hW
 have hS:=Ac hW.small
 rw [e1.out] at hW2
 clear hW
 go_enter Tryz.func78,Tryz.ntmps78
 go_wp2_with fail
 refine (DO _ _ _ hW2.out).mono ?_
 rintro e w' ⟨v',rfl,hv',hE⟩
 go_wp2
 go_ret
 refine ⟨v',rfl,?_,((Ext.refl _).alloc _).trans hE⟩
 rw [AM hS.out,hv.out] at hv'
 exact hv'
def AddRel(w wr:World)(la lb r:List Nat)(n k cc:Nat):Prop:=
 r.length=n/\Bn r/\Blk wr w.heap.size 108 (wv r)/\val (r.take k)+BB^k*cc=val (la.take k)+val (lb.take k)/\Ext w wr
theorem AddRel.step{w wr:World}{la lb r:List Nat}{n k cc x y:Nat}(h:AddRel w wr la lb r n k cc)(hk:k<n)(hx:la.getD k 0=x)(hy:lb.getD k 0=y)(hxB:x<4294967296)(hyB:y<4294967296)(hc:cc<=1){u z:Int}(hu:u=((x+cc+y)%BB:Nat))(hz:z=((x+cc+y)/BB:Nat)) :
  ∃(k1 c1:Nat) (r1:List Nat),k1<=n/\Value.int .i64 ((k:Int)+1) = .int .i64 k1/\Value.int .u64 z = .int .u64 c1/\c1<=1/\Hid (AddRel w (wr.setCell ⟨w.heap.size,k,none⟩ (.int .u32 u)) la lb r1 n k1 c1):=by
 obtain ⟨h1,h2,h3,h4,h5⟩:=h
 obtain ⟨e1,e2⟩:=Nu (by omega) hx hy (by rw [Bb];exact hxB) (by rw [Bb];exact hyB) hc h4
 refine ⟨k+1,(x+cc+y)/BB,r.set k ((x+cc+y)%BB),hk,by simp,by rw [hz],e2,by simpa using h1,BX h2 k (Nat.mod_lt _ BP),?_,e1,?_⟩
 .rw [hu,<-EQ]
  exact h3.set k _
 .exact Below.setCell h5 (Nat.le_refl _) _
theorem AddRel.close{w wr:World}{la lb r:List Nat}{n cc:Nat}(h:AddRel w wr la lb r n n cc)(hn:la.length<n)(hm:lb.length<n)(hA:Bn la)(hB:Bn lb):val r=val la+val lb:=by
 obtain ⟨h1,h2,h3,h4,h5⟩:=h
 rw [List.take_of_length_le (show la.length<=n by omega),List.take_of_length_le (show lb.length<=n by omega),List.take_of_length_le (show r.length<=n by omega)] at h4
 have ba:val la<BB^(n-1):=Nat.lt_of_lt_of_le (CI hA) (Nat.pow_le_pow_right BP (by omega))
 have bb:val lb<BB^(n-1):=Nat.lt_of_lt_of_le (CI hB) (Nat.pow_le_pow_right BP (by omega))
 have e:BB^n=BB*BB^(n-1):=by rw [<-Nat.pow_succ'];congr 1;omega
 have e2:2*BB^(n-1)<=BB*BB^(n-1):=Nat.mul_le_mul_right _ (by decide)
 rcases Nat.eq_zero_or_pos cc with h0 | h0
 .subst h0;omega
 .have:BB^n*1<=BB^n*cc:=Nat.mul_le_mul_left _ h0
  omega
theorem MP(va vb:Value)(la lb:List Nat)(w:World)(ha:Words w va la)(hb:Words w vb lb)(hn:la.length<=4398046511104)(hm:lb.length<=4398046511104) :
  Calls Tryz.prog 112 #[va,vb] w λe w'=>∃v',e = .returned v'/\Words w' v' (Am (val la+val lb))/\Ext w w':=by
 obtain ⟨A,c,rfl,hc,hm',hx⟩:=ha.open_
 obtain ⟨B,d,rfl,hd,hm'',hy⟩:=hb.open_
 have Ha:=Ac ha
 have Hb:=Ac hb
 clear ha hb hx hy
 have hsa:=Ac Ha.out.small
 have hsb:=Ac Hb.out.small
 have hsa':=hsa
 generalize hn1:la.length=n at *
 generalize hm1:lb.length=m at *
 replace hn1:=Ac hn1
 replace hm1:=Ac hm1
 clear hsa'
 rcases Nat.lt_or_ge n m with hnm | hnm
 .have hq1:n<=m:=by omega
  have hq2:m<=m:=by omega
  have hmk:=λW=>By (m+1) (by omega) .i64 .i64 W
  simp only [Int.natCast_add,Int.natCast_one] at hmk
  go_enter Tryz.func112,Tryz.ntmps112
  go_wp2
  go_loopw [7,8] (λcy i wr=>∃(k cc:Nat) (r:List Nat),k<=m+1/\i = .int .i64 k/\cy = .int .u64 cc/\cc<=1/\Hid (AddRel w wr la lb r (m+1) k cc)) (λ_ i _=>m+1-(intOf i).toNat)
  case atStart=>exact ⟨0,0,List.replicate (m+1) 0,Nat.zero_le _,rfl,rfl,by omega,⟨by simp,Bs _,Blk.new _ _ _,by simp [val],(Ext.refl _).alloc _⟩⟩
  case round=>
   obtain ⟨k,cc,r,hk,rfl,rfl,hcc,hR⟩:=hrel
   by_cases hlt:k<m+1
   .have hdk:decide ((k:Int)<(m:Int)+1)=true:=by simp; omega
    have hxB:=AD hsa.out k
    have hyB:=AD hsb.out k
    have hst:wr.cell? ⟨w.heap.size,k,none⟩=some (.int .u32 (r.getD k 0:Nat)):=by rw [hR.out.2.2.1.cell,Ch (by rw [hR.out.1];omega)]
    have hfz:=hR.out.2.2.1.frozen k
    generalize hx:la.getD k 0=x at *
    generalize hy:lb.getD k 0=y at *
    replace hx:=Ac hx
    replace hy:=Ac hy
    unfold BB at hxB hyB
    go_wp2_with fail
    refine (Fg _ la k x _ (Ha.out.ext hR.out.2.2.2.2) hx.out).mono ?_
    rintro e w1 ⟨rfl,rfl⟩
    go_wp2_with fail
    refine (Fg _ lb k y _ (Hb.out.ext hR.out.2.2.2.2) hy.out).mono ?_
    rintro e w1 ⟨rfl,rfl⟩
    go_wp2
    exact ⟨hR.out.step hlt hx.out hy.out hxB hyB hcc (by rw [Bb];omega) (by rw [Bb];omega),by simp [intOf];omega⟩
   .obtain rfl:k=m+1:=by omega
    have hdk:decide (((m+1:Nat):Int)<(m:Int)+1)=false:=by simp
    have hcl:=Ac (hR.out.close (by rw [hn1.out];omega) (by rw [hm1.out];omega) hsa.out hsb.out)
    have hW:Hid (Words wr (.slice (some ⟨w.heap.size,0,none⟩) (m+1) (m+1)) r):=by
     have:=Bu (c:=m+1) hR.out.2.2.1 hR.out.2.1 (by rw [hR.out.1];omega) (by omega)
     rw [hR.out.1] at this
     exact this
    go_wp2_with (go_at_call 103;refine (DO _ _ _ hW.out).mono ?_;rintro e w' ⟨v',rfl,hv',hE⟩)
    go_ret
    refine ⟨v',rfl,?_,hR.out.2.2.2.2.trans hE⟩
    rw [AM hR.out.2.1,hcl.out] at hv'
    exact hv'
 .have hq1:n<=n:=by omega
  have hq2:m<=n:=by omega
  have hnl:¬n<m:=by omega
  have hmk:=λW=>By (n+1) (by omega) .i64 .i64 W
  simp only [Int.natCast_add,Int.natCast_one] at hmk
  go_enter Tryz.func112,Tryz.ntmps112
  go_wp2
  go_loopw [7,8] (λcy i wr=>∃(k cc:Nat) (r:List Nat),k<=n+1/\i = .int .i64 k/\cy = .int .u64 cc/\cc<=1/\Hid (AddRel w wr la lb r (n+1) k cc)) (λ_ i _=>n+1-(intOf i).toNat)
  case atStart=>exact ⟨0,0,List.replicate (n+1) 0,Nat.zero_le _,rfl,rfl,by omega,⟨by simp,Bs _,Blk.new _ _ _,by simp [val],(Ext.refl _).alloc _⟩⟩
  case round=>
   obtain ⟨k,cc,r,hk,rfl,rfl,hcc,hR⟩:=hrel
   by_cases hlt:k<n+1
   .have hdk:decide ((k:Int)<(n:Int)+1)=true:=by simp; omega
    have hxB:=AD hsa.out k
    have hyB:=AD hsb.out k
    have hst:wr.cell? ⟨w.heap.size,k,none⟩=some (.int .u32 (r.getD k 0:Nat)):=by rw [hR.out.2.2.1.cell,Ch (by rw [hR.out.1];omega)]
    have hfz:=hR.out.2.2.1.frozen k
    generalize hx:la.getD k 0=x at *
    generalize hy:lb.getD k 0=y at *
    replace hx:=Ac hx
    replace hy:=Ac hy
    unfold BB at hxB hyB
    go_wp2_with fail
    refine (Fg _ la k x _ (Ha.out.ext hR.out.2.2.2.2) hx.out).mono ?_
    rintro e w1 ⟨rfl,rfl⟩
    go_wp2_with fail
    refine (Fg _ lb k y _ (Hb.out.ext hR.out.2.2.2.2) hy.out).mono ?_
    rintro e w1 ⟨rfl,rfl⟩
    go_wp2
    exact ⟨hR.out.step hlt hx.out hy.out hxB hyB hcc (by rw [Bb];omega) (by rw [Bb];omega),by simp [intOf];omega⟩
   .obtain rfl:k=n+1:=by omega
    have hdk:decide (((n+1:Nat):Int)<(n:Int)+1)=false:=by simp
    have hcl:=Ac (hR.out.close (by rw [hn1.out];omega) (by rw [hm1.out];omega) hsa.out hsb.out)
    have hW:Hid (Words wr (.slice (some ⟨w.heap.size,0,none⟩) (n+1) (n+1)) r):=by
     have:=Bu (c:=n+1) hR.out.2.2.1 hR.out.2.1 (by rw [hR.out.1];omega) (by omega)
     rw [hR.out.1] at this
     exact this
    go_wp2_with (go_at_call 103;refine (DO _ _ _ hW.out).mono ?_;rintro e w' ⟨v',rfl,hv',hE⟩)
    go_ret
    refine ⟨v',rfl,?_,hR.out.2.2.2.2.trans hE⟩
    rw [AM hR.out.2.1,hcl.out] at hv'
    exact hv'
theorem BL(a:Rat):0<=a*a:=by
 rcases (Rat.le_total:0<=a\/a<=0) with h | h
 .exact Rat.mul_nonneg h h
 .have h1:0 <= -a:=by grind
  have:=Rat.mul_nonneg h1 h1
  grind
theorem Hp{a x:Rat}(ha:0<a)(h:0<=a*x):0<=x:=by
 by_cases hx:0<=x
 .exact hx
 .exfalso
  have hx':0 < -x:=by grind
  have:=Rat.mul_pos ha hx'
  grind
theorem OK{a x:Rat}(ha:0<a)(h:0<a*x):0<x:=by
 have h1:=Hp ha (by grind:0<=a*x)
 by_cases h0:x=0
 .subst h0;grind
 .grind
def D2(a b e:Rat):Rat:=a*e-b*b
def D3(a b c e f h:Rat):Rat:=a*(e*h-f*f)-b*(b*h-f*c)+c*(b*f-e*c)
def Q3(a b c e f h x y z:Rat):Rat:=(e*h-f*f)*(x*x)+(a*h-c*c)*(y*y)+(a*e-b*b)*(z*z)+2*((c*f-b*h)*(x*y)+(b*f-c*e)*(x*z)+(b*c-a*f)*(y*z))
def D4(a b c d e f g h i j:Rat):Rat:=j*D3 a b c e f h-Q3 a b c e f h d g i
theorem A1F{a b e x y:Rat}(ha:0<a)(h2:0<D2 a b e):0<=a*(y*y)-2*(b*(x*y))+e*(x*x):=by
 refine Hp ha ?_
 have h3:=Rat.mul_nonneg (Rat.le_of_lt h2) (BL x)
 have h4:=BL (a*y-b*x)
 unfold D2 at h3
 grind
theorem A3e(a b c e f h x y z:Rat):D2 a b e*Q3 a b c e f h x y z=((a*e-b*b)*z+(b*c-a*f)*y+(b*f-c*e)*x)*((a*e-b*b)*z+(b*c-a*f)*y+(b*f-c*e)*x)+D3 a b c e f h*(a*(y*y)-2*(b*(x*y))+e*(x*x)):=by
 unfold D2 Q3 D3
 grind
theorem A3d{a b c e f h x y z:Rat}(ha:0<a)(h2:0<D2 a b e)(h3:0<D3 a b c e f h):0<=Q3 a b c e f h x y z:=by
 refine Hp h2 ?_
 rw [A3e]
 have h4:=Rat.mul_nonneg (Rat.le_of_lt h3) (A1F (x:=x) (y:=y) ha h2)
 have h5:=BL ((a*e-b*b)*z+(b*c-a*f)*y+(b*f-c*e)*x)
 grind
theorem A3y{a b e:Rat}:D2 a b e<=a*e:=by
 have:=BL b
 unfold D2
 grind
theorem A3x{a b c e f h:Rat}(ha:0<a)(h2:0<D2 a b e):D3 a b c e f h<=D2 a b e*h:=by
 have:=A1F (x:=c) (y:=f) ha h2
 unfold D2 D3
 grind
theorem A3w{a b c d e f g h i j:Rat}(ha:0<a)(h2:0<D2 a b e)(h3:0<D3 a b c e f h):D4 a b c d e f g h i j<=D3 a b c e f h*j:=by
 have:=A3d (x:=d) (y:=g) (z:=i) ha h2 h3
 unfold D4
 grind
def F4(a b c d e f g h i j x y z w:Rat):Rat:=a*(x*x)+e*(y*y)+h*(z*z)+j*(w*w)+2*(b*(x*y)+c*(x*z)+d*(x*w)+f*(y*z)+g*(y*w)+i*(z*w))
theorem A3r(a b c d e f g h i j x y z w:Rat):a*F4 a b c d e f g h i j x y z w=(a*x+b*y+c*z+d*w)*(a*x+b*y+c*z+d*w)+((a*e-b*b)*(y*y)+(a*h-c*c)*(z*z)+(a*j-d*d)*(w*w)+2*((a*f-b*c)*(y*z)+(a*g-b*d)*(y*w)+(a*i-c*d)*(z*w))):=by
 unfold F4
 grind
theorem A3s(a b c d e f g h i j y z w:Rat):D2 a b e*((a*e-b*b)*(y*y)+(a*h-c*c)*(z*z)+(a*j-d*d)*(w*w)+2*((a*f-b*c)*(y*z)+(a*g-b*d)*(y*w)+(a*i-c*d)*(z*w)))=((a*e-b*b)*y+(a*f-b*c)*z+(a*g-b*d)*w)*((a*e-b*b)*y+(a*f-b*c)*z+(a*g-b*d)*w)+a*(D3 a b c e f h*(z*z)+D3 a b d e g j*(w*w)+2*((a*(e*i-f*g)-b*(b*i-c*g)+d*(b*f-c*e))*(z*w))):=by
 unfold D2 D3
 grind
theorem A3t(a b c d e f g h i j:Rat):D3 a b c e f h*D3 a b d e g j-(a*(e*i-f*g)-b*(b*i-c*g)+d*(b*f-c*e))*(a*(e*i-f*g)-b*(b*i-c*g)+d*(b*f-c*e))=D2 a b e*D4 a b c d e f g h i j:=by
 unfold D2 D3 D4 Q3
 unfold D3
 grind
theorem A3q{a b c d e f g h i j x y z w:Rat}(ha:0<a)(h2:0<D2 a b e)(h3:0<D3 a b c e f h)(h4:0<D4 a b c d e f g h i j):0<=F4 a b c d e f g h i j x y z w:=by
 refine Hp ha ?_
 rw [A3r]
 have k1:=BL (a*x+b*y+c*z+d*w)
 have k2:0<=(a*e-b*b)*(y*y)+(a*h-c*c)*(z*z)+(a*j-d*d)*(w*w)+2*((a*f-b*c)*(y*z)+(a*g-b*d)*(y*w)+(a*i-c*d)*(z*w)):=by
  refine Hp h2 ?_
  rw [A3s]
  have k3:=BL ((a*e-b*b)*y+(a*f-b*c)*z+(a*g-b*d)*w)
  have k4:=A3t a b c d e f g h i j
  have k5:0<=D3 a b c e f h*(z*z)+D3 a b d e g j*(w*w)+2*((a*(e*i-f*g)-b*(b*i-c*g)+d*(b*f-c*e))*(z*w)):=by
   refine Hp h3 ?_
   generalize a*(e*i-f*g)-b*(b*i-c*g)+d*(b*f-c*e)=m at *
   have k6:=BL (D3 a b c e f h*z+m*w)
   have k7:=Rat.mul_nonneg (Rat.le_of_lt (Rat.mul_pos h2 h4)) (BL w)
   rw [<-k4] at k7
   generalize D3 a b c e f h=p at *
   generalize D3 a b d e g j=q at *
   grind
  have k8:=Rat.mul_nonneg (Rat.le_of_lt ha) k5
  grind
 grind
theorem SY{x y B m:Rat}(h1:-B<=x)(h2:x<=B)(h3:-m<=y)(h4:y<=m):-(B*m)<=x*y/\x*y<=B*m:=by
 have k1:=Rat.mul_nonneg (show 0<=B-x by grind) (show 0<=m-y by grind)
 have k2:=Rat.mul_nonneg (show 0<=B+x by grind) (show 0<=m+y by grind)
 have k3:=Rat.mul_nonneg (show 0<=B-x by grind) (show 0<=m+y by grind)
 have k4:=Rat.mul_nonneg (show 0<=B+x by grind) (show 0<=m-y by grind)
 constructor<;>grind
def LB(T:Rat)(f:Rat->Rat):Prop:=∃L B:Rat,0<=L/\0<=B/\(∀t,0<=t->t<=T->-B<=f t/\f t<=B)/\∀s t,0<=t->t<=s->s<=T->-(L*(s-t))<=f s-f t/\f s-f t<=L*(s-t)
theorem LB.const{T:Rat}(c:Rat):LB T λ_=>c:=by
 refine ⟨0,c*c+1,by grind,by have:=BL c;grind,λt _ _=>?_,λs t _ _ _=>by grind⟩
 have h1:=BL (c-1)
 have h2:=BL (c+1)
 constructor<;>grind
theorem HW{T:Rat}:LB T λt=>t:=by
 refine ⟨1,T*T+1,by grind,by have:=BL T;grind,λt h1 h2=>?_,λs t _ _ _=>by grind⟩
 have h3:=BL (T-1)
 have h4:=BL T
 constructor<;>grind
theorem LB.add{T:Rat}{f g:Rat->Rat}(hf:LB T f)(hg:LB T g):LB T λt=>f t+g t:=by
 obtain ⟨L,B,h1,h2,h3,h4⟩:=hf
 obtain ⟨L',B',h5,h6,h7,h8⟩:=hg
 refine ⟨L+L',B+B',by grind,by grind,λt k1 k2=>?_,λs t k1 k2 k3=>?_⟩
 .have:=h3 t k1 k2;have:=h7 t k1 k2;constructor<;>grind
 .have:=h4 s t k1 k2 k3;have:=h8 s t k1 k2 k3;constructor<;>grind
theorem LB.sub{T:Rat}{f g:Rat->Rat}(hf:LB T f)(hg:LB T g):LB T λt=>f t-g t:=by
 obtain ⟨L,B,h1,h2,h3,h4⟩:=hf
 obtain ⟨L',B',h5,h6,h7,h8⟩:=hg
 refine ⟨L+L',B+B',by grind,by grind,λt k1 k2=>?_,λs t k1 k2 k3=>?_⟩
 .have:=h3 t k1 k2;have:=h7 t k1 k2;constructor<;>grind
 .have:=h4 s t k1 k2 k3;have:=h8 s t k1 k2 k3;constructor<;>grind
theorem LB.mul{T:Rat}{f g:Rat->Rat}(hf:LB T f)(hg:LB T g):LB T λt=>f t*g t:=by
 obtain ⟨L,B,h1,h2,h3,h4⟩:=hf
 obtain ⟨L',B',h5,h6,h7,h8⟩:=hg
 refine ⟨B*L'+B'*L,B*B',?_,Rat.mul_nonneg h2 h6,λt k1 k2=>?_,λs t k1 k2 k3=>?_⟩
 .have:=Rat.mul_nonneg h2 h5;have:=Rat.mul_nonneg h6 h1;grind
 .obtain ⟨a1,a2⟩:=h3 t k1 k2;obtain ⟨b1,b2⟩:=h7 t k1 k2
  exact SY a1 a2 b1 b2
 .obtain ⟨a1, a2⟩:=h3 s (by grind) k3; obtain ⟨b1, b2⟩:=h7 t k1 (by grind)
  obtain ⟨c1,c2⟩:=h4 s t k1 k2 k3;obtain ⟨d1,d2⟩:=h8 s t k1 k2 k3
  obtain ⟨e1,e2⟩:=SY a1 a2 d1 d2
  obtain ⟨e3,e4⟩:=SY b1 b2 c1 c2
  have e:f s*g s-f t*g t=f s*(g s-g t)+g t*(f s-f t):=by grind
  constructor<;>grind
theorem Vu(x:Rat):∃n:Nat,x<(n:Rat)/\0<n:=by
 have h:=Rat.lt_floor_add_one x
 refine ⟨(x.floor+1).toNat+1,?_,by omega⟩
 have h1:((x.floor+1:Int):Rat)<=(((x.floor+1).toNat+1:Nat):Int):=by
  have:x.floor+1<=(((x.floor+1).toNat+1:Nat):Int):=by omega
  exact Rat.intCast_le_intCast.2 this
 rw [Rat.intCast_natCast] at h1
 grind
theorem Ps{α β γ A T:Rat}(hA:0<=A)(h1:-A<=α)(h2:-A<=β)(h3:-A<=γ)(hT:1+3*A<=T):0<T*T*T+α*(T*T)+β*T+γ:=by
 have t1:1<=T:=by grind
 have k0:=Rat.mul_nonneg (show 0<=T-1 by grind) (show 0<=T-1 by grind)
 have k1:=Rat.mul_nonneg (BL T) (show 0<=T-(1+3*A) by grind)
 have k2:=Rat.mul_nonneg (BL T) (show 0<=α+A by grind)
 have k3:=Rat.mul_nonneg (show 0<=T by grind) (show 0<=β+A by grind)
 have k4:=Rat.mul_nonneg hA (show 0<=T-1 by grind)
 have k5:=Rat.mul_nonneg k4 (show 0<=T by grind)
 grind
def C1(a e h j:Rat):Rat:=a+e+h+j
def C2(a b c d e f g h i j:Rat):Rat:=(a*e-b*b)+(a*h-c*c)+(a*j-d*d)+(e*h-f*f)+(e*j-g*g)+(h*j-i*i)
def C3(a b c d e f g h i j:Rat):Rat:=D3 a b c e f h+D3 a b d e g j+D3 a c d h i j+D3 e f g h i j
theorem Zb(a b e t:Rat):D2 (a+t) b (e+t)=t*t+(a+e)*t+D2 a b e:=by
 unfold D2;grind
theorem Za(a b c e f h t:Rat):D3 (a+t) b c (e+t) f (h+t)=t*t*t+(a+e+h)*(t*t)+((a*e-b*b)+(a*h-c*c)+(e*h-f*f))*t+D3 a b c e f h:=by
 unfold D3;grind
theorem MC(a b c d e f g h i j t:Rat):D4 (a+t) b c d (e+t) f g (h+t) i (j+t)=t*t*t*t+C1 a e h j*(t*t*t)+C2 a b c d e f g h i j*(t*t)+C3 a b c d e f g h i j*t+D4 a b c d e f g h i j:=by
 unfold D4 Q3 C1 C2 C3 D3;grind
def PDt(a b c d e f g h i j t:Rat):Prop:=0<a+t/\0<D2 (a+t) b (e+t)/\0<D3 (a+t) b c (e+t) f (h+t)/\0<D4 (a+t) b c d (e+t) f g (h+t) i (j+t)
theorem lb1{T a:Rat}:LB T λt=>a+t:=LB.add (LB.const _) HW
theorem lb2{T a b e:Rat}:LB T λt=>D2 (a+t) b (e+t):=by
 unfold D2
 exact LB.sub (LB.mul lb1 lb1) (LB.const _)
theorem lb3{T a b c e f h:Rat}:LB T λt=>D3 (a+t) b c (e+t) f (h+t):=by
 unfold D3
 exact LB.add (LB.sub (LB.mul lb1 (LB.sub (LB.mul lb1 lb1) (LB.const _))) (LB.mul (LB.const _) (LB.sub (LB.mul (LB.const _) lb1) (LB.const _)))) (LB.mul (LB.const _) (LB.sub (LB.const _) (LB.mul lb1 (LB.const _))))
theorem lb4{T a b c d e f g h i j:Rat}:LB T λt=>D4 (a+t) b c d (e+t) f g (h+t) i (j+t):=by
 have e:(λt=>D4 (a+t) b c d (e+t) f g (h+t) i (j+t))=λt=>t*t*t*t+C1 a e h j*(t*t*t)+C2 a b c d e f g h i j*(t*t)+C3 a b c d e f g h i j*t+D4 a b c d e f g h i j:=funext λt=>MC ..
 rw [e]
 exact LB.add (LB.add (LB.add (LB.add (LB.mul (LB.mul (LB.mul HW HW) HW) HW) (LB.mul (LB.const _) (LB.mul (LB.mul HW HW) HW))) (LB.mul (LB.const _) (LB.mul HW HW))) (LB.mul (LB.const _) HW)) (LB.const _)
theorem Pj{c B:Rat}(hB:0<B):∃x,x*B=c:=⟨c*B⁻¹,by rw [Rat.mul_assoc,Rat.inv_mul_cancel _ (by grind),Rat.mul_one]⟩
theorem Ka{x y B:Rat}(hB:0<B)(h:x*B<=y*B):x<=y:=by
 have:=Hp (a:=B) (x:=y-x) hB (by grind)
 grind
theorem IE{x B:Rat}(hB:0<B)(h:0<x*B):0<x:=OK hB (by grind)
section
variable {a b c d e f g h i j:Rat}
theorem A21(h1:0<=C1 a e h j)(h2:0<=C2 a b c d e f g h i j)(h3:0<=C3 a b c d e f g h i j)(h4:0<=D4 a b c d e f g h i j){t0 T:Rat}(ht0:0<t0):∃δ:Rat,0<δ/\∀t,t0<=t->t<=T->PDt a b c d e f g h i j t->δ<=a+t/\δ<=D2 (a+t) b (e+t)/\δ<=D3 (a+t) b c (e+t) f (h+t)/\δ<=D4 (a+t) b c d (e+t) f g (h+t) i (j+t):=by
 obtain ⟨B,hB1,hBe,hBh,hBj⟩:∃B:Rat,1<=B/\e+T<=B/\h+T<=B/\j+T<=B:=by
  have k1:=BL (e+T-1);have k2:=BL (h+T-1);have k3:=BL (j+T-1)
  have l1:=BL (e+T);have l2:=BL (h+T);have l3:=BL (j+T)
  exact ⟨1+(e+T)*(e+T)+1+(h+T)*(h+T)+1+(j+T)*(j+T)+1,by grind,by grind,by grind,by grind⟩
 have hB:0<B:=by grind
 have hBB:=Rat.mul_pos hB hB
 have hB3:=Rat.mul_pos hBB hB
 have hc:0<t0*t0*t0*t0:=Rat.mul_pos (Rat.mul_pos (Rat.mul_pos ht0 ht0) ht0) ht0
 obtain ⟨δ,hδ⟩:=Pj (c:=t0*t0*t0*t0) hB3
 have hδ0:0<δ:=IE hB3 (by rw [hδ];exact hc)
 refine ⟨δ,hδ0,λt ht htT ⟨p1,p2,p3,p4⟩=>?_⟩
 have t0':0<=t:=by grind
 have d4:δ*(B*B*B)<=D4 (a+t) b c d (e+t) f g (h+t) i (j+t):=by
  rw [hδ,MC]
  have m1:=Rat.mul_nonneg h1 (Rat.mul_nonneg (Rat.mul_nonneg t0' t0') t0')
  have m2:=Rat.mul_nonneg h2 (Rat.mul_nonneg t0' t0')
  have m3:=Rat.mul_nonneg h3 t0'
  have s1:t0*t0<=t*t:=by
   have:=Rat.mul_nonneg (show 0<=t-t0 by grind) (show 0<=t+t0 by grind)
   grind
  have s2:(t0*t0)*(t0*t0)<=(t*t)*(t*t):=by
   have:=Rat.mul_nonneg (show 0<=t*t-t0*t0 by grind) (show 0<=t*t+t0*t0 by have:=BL t;have:=BL t0;grind)
   grind
  grind
 have q4:=A3w (d:=d) (g:=g) (i:=i) (j:=j+t) p1 p2 p3
 have q3:=A3x (c:=c) (f:=f) (h:=h+t) p1 p2
 have q2:=A3y (a:=a+t) (b:=b) (e:=e+t)
 have r4:=Rat.mul_nonneg (Rat.le_of_lt p3) (show 0<=B-(j+t) by grind)
 have r3:=Rat.mul_nonneg (Rat.le_of_lt p2) (show 0<=B-(h+t) by grind)
 have r2:=Rat.mul_nonneg (Rat.le_of_lt p1) (show 0<=B-(e+t) by grind)
 generalize D4 (a+t) b c d (e+t) f g (h+t) i (j+t)=x4 at *
 generalize D3 (a+t) b c (e+t) f (h+t)=x3 at *
 generalize D2 (a+t) b (e+t)=x2 at *
 have u3:δ*(B*B)<=x3:=Ka hB (by grind)
 have u2:δ*B<=x2:=Ka hB (by grind)
 have u1:δ<=a+t:=Ka hB (by grind)
 have v1:=Rat.mul_nonneg (Rat.le_of_lt hδ0) (show 0<=B-1 by grind)
 have v2:=Rat.mul_nonneg v1 (Rat.le_of_lt hB)
 have v3:=Rat.mul_nonneg v2 (Rat.le_of_lt hB)
 exact ⟨u1,by grind,by grind,by grind⟩
theorem A0z(h1:0<=C1 a e h j)(h2:0<=C2 a b c d e f g h i j)(h3:0<=C3 a b c d e f g h i j)(h4:0<=D4 a b c d e f g h i j){t0 T:Rat}(ht0:0<t0)(hT:t0<=T)(hp:PDt a b c d e f g h i j T):PDt a b c d e f g h i j t0:=by
 obtain ⟨δ,hδ,hlow⟩:=A21 h1 h2 h3 h4 (T:=T) ht0
 obtain ⟨L1,_,l1,_,_,k1⟩:=lb1 (T:=T) (a:=a)
 obtain ⟨L2,_,l2,_,_,k2⟩:=lb2 (T:=T) (a:=a) (b:=b) (e:=e)
 obtain ⟨L3,_,l3,_,_,k3⟩:=lb3 (T:=T) (a:=a) (b:=b) (c:=c) (e:=e) (f:=f) (h:=h)
 obtain ⟨L4,_,l4,_,_,k4⟩:=lb4 (T:=T) (a:=a) (b:=b) (c:=c) (d:=d) (e:=e) (f:=f) (g:=g) (h:=h) (i:=i) (j:=j)
 obtain ⟨L,hL⟩:∃L,L=L1+L2+L3+L4:=⟨_,rfl⟩
 obtain ⟨x,hx⟩:=Pj (c:=(T-t0)*L) hδ
 obtain ⟨N,hN,hN0⟩:=Vu x
 have hNr:(0:Rat)<(N:Rat):=Rat.natCast_pos.2 hN0
 obtain ⟨η,hη⟩:=Pj (c:=T-t0) hNr
 have hη0:0<=η:=Hp hNr (by grind)
 have hLη:L*η<δ:=by
  have h5:0<δ-L*η:=IE hNr (by
   have h6:=Rat.mul_pos hδ (show 0<(N:Rat)-x by grind)
   have h7:L*η*(N:Rat)=(T-t0)*L:=by rw [Rat.mul_assoc,hη];grind
   grind)
  grind
 have key:∀m:Nat,m<=N->PDt a b c d e f g h i j (T-(m:Rat)*η):=by
  intro m
  induction m with
  | zero=>intro _;rw [show T-((0:Nat):Rat)*η=T by simp;grind];exact hp
  | succ m ih=>
   intro hm
   have ih:=ih (by omega)
   have e1:((m+1:Nat):Rat)=(m:Rat)+1:=by simp
   have hmN:(m:Rat)+1<=(N:Rat):=by rw [<-e1];exact Rat.natCast_le_natCast.2 hm
   have hm0:(0:Rat)<=(m:Rat):=Rat.natCast_nonneg
   rw [e1]
   have g1:=Rat.mul_nonneg (show 0<=(N:Rat)-((m:Rat)+1) by grind) hη0
   have g2:=Rat.mul_nonneg hm0 hη0
   obtain ⟨p1,p2,p3,p4⟩:=hlow _ (by grind) (by grind) ih
   have a1:=(k1 (T-(m:Rat)*η) (T-((m:Rat)+1)*η) (by grind) (by grind) (by grind)).2
   have a2:=(k2 (T-(m:Rat)*η) (T-((m:Rat)+1)*η) (by grind) (by grind) (by grind)).2
   have a3:=(k3 (T-(m:Rat)*η) (T-((m:Rat)+1)*η) (by grind) (by grind) (by grind)).2
   have a4:=(k4 (T-(m:Rat)*η) (T-((m:Rat)+1)*η) (by grind) (by grind) (by grind)).2
   have es:T-(m:Rat)*η-(T-((m:Rat)+1)*η)=η:=by grind
   rw [es] at a1 a2 a3 a4
   have w1:=Rat.mul_nonneg l1 hη0;have w2:=Rat.mul_nonneg l2 hη0;have w3:=Rat.mul_nonneg l3 hη0;have w4:=Rat.mul_nonneg l4 hη0
   subst hL
   refine ⟨?_,?_,?_,?_⟩
   .clear a2 a3 a4 p2 p3 p4;grind
   .clear a1 a3 a4 p1 p3 p4
    generalize D2 _ b _=y2 at *;grind
   .clear a1 a2 a4 p1 p2 p4;grind
   .clear a1 a2 a3 p1 p2 p3;grind
 have:=key N (Nat.le_refl _)
 rwa [show T-(N:Rat)*η=t0 by grind] at this
end
theorem Nx(x:Rat):-(x*x+1)<=x:=by
 have h1:=BL (x+1)
 have h2:=BL x
 grind
section
variable {a b c d e f g h i j:Rat}
theorem A20(h1:0<=C1 a e h j)(h2:0<=C2 a b c d e f g h i j)(h3:0<=C3 a b c d e f g h i j)(h4:0<=D4 a b c d e f g h i j)(t0:Rat):∃T,t0<=T/\PDt a b c d e f g h i j T:=by
 obtain ⟨α,hα⟩:∃x,x=(a*e-b*b)+(a*h-c*c)+(e*h-f*f):=⟨_,rfl⟩
 obtain ⟨β,hβ⟩:∃x,x=D3 a b c e f h:=⟨_,rfl⟩
 obtain ⟨γ,hγ⟩:∃x,x=D2 a b e:=⟨_,rfl⟩
 have n1:=BL a;have n2:=BL (a+e);have n3:=BL (a+e+h);have n4:=BL α;have n5:=BL β;have n6:=BL γ;have n7:=BL t0
 obtain ⟨A,hA⟩:∃A,A=(a*a+1)+((a+e)*(a+e)+1)+((a+e+h)*(a+e+h)+1)+(α*α+1)+(β*β+1)+(γ*γ+1)+(t0*t0+1):=⟨_,rfl⟩
 have q1:=Nx a;have q2:=Nx (a+e);have q3:=Nx (a+e+h);have q4:=Nx α;have q5:=Nx β;have q6:=Nx γ
 have hA0:0<=A:=by grind
 have ht:t0<=1+3*A:=by
  have:=BL (t0-1)
  grind
 obtain ⟨T,hT⟩:∃T,T=1+3*A:=⟨_,rfl⟩
 have hT0:0<T:=by grind
 have c1:=Ps (α:=a) (β:=0) (γ:=0) (A:=A) (T:=T) hA0 (by grind) (by grind) (by grind) (by grind)
 have c2:=Ps (α:=a+e) (β:=γ) (γ:=0) (A:=A) (T:=T) hA0 (by grind) (by grind) (by grind) (by grind)
 have c3:=Ps (α:=a+e+h) (β:=α) (γ:=β) (A:=A) (T:=T) hA0 (by grind) (by grind) (by grind) (by grind)
 refine ⟨T,by grind,?_,?_,?_,?_⟩
 .exact OK (Rat.mul_pos hT0 hT0) (by clear c2 c3 n1 n2 n3 n4 n5 n6 n7 q1 q2 q3 q4 q5 q6 hA hα hβ hγ;grind)
 .rw [Zb,<-hγ]
  exact OK hT0 (by clear c1 c3 n1 n2 n3 n4 n5 n6 n7 q1 q2 q3 q4 q5 q6 hA hα hβ hγ;grind)
 .rw [Za,<-hα,<-hβ]
  exact c3
 .rw [MC]
  have p2:=Rat.mul_pos hT0 hT0
  have p3:=Rat.mul_pos p2 hT0
  have p4:=Rat.mul_pos p3 hT0
  have m1:=Rat.mul_nonneg h1 (Rat.le_of_lt p3)
  have m2:=Rat.mul_nonneg h2 (Rat.le_of_lt p2)
  have m3:=Rat.mul_nonneg h3 (Rat.le_of_lt hT0)
  clear c1 c2 c3 n1 n2 n3 n4 n5 n6 n7 q1 q2 q3 q4 q5 q6 hA hα hβ hγ
  grind
theorem A0P(h1:0<=C1 a e h j)(h2:0<=C2 a b c d e f g h i j)(h3:0<=C3 a b c d e f g h i j)(h4:0<=D4 a b c d e f g h i j)(x y z w:Rat):0<=F4 a b c d e f g h i j x y z w:=by
 have hall:∀t,0<t->0<=F4 a b c d e f g h i j x y z w+t*(x*x+y*y+z*z+w*w):=λt ht=>by
  obtain ⟨T,hT,hp⟩:=A20 h1 h2 h3 h4 t
  obtain ⟨p1,p2,p3,p4⟩:=A0z h1 h2 h3 h4 ht hT hp
  have:=A3q (x:=x) (y:=y) (z:=z) (w:=w) p1 p2 p3 p4
  unfold F4 at this ⊢
  grind
 have hs:0<=x*x+y*y+z*z+w*w:=by
  have:=BL x;have:=BL y;have:=BL z;have:=BL w
  grind
 generalize x*x+y*y+z*z+w*w=s at *
 generalize F4 a b c d e f g h i j x y z w=v at *
 by_cases hv:0<=v
 .exact hv
 .exfalso
  have hs1:0<s+1:=by grind
  obtain ⟨t,ht⟩:=Pj (c:=-v) (show 0<2*(s+1) by grind)
  have ht0:0<t:=IE (show 0<2*(s+1) by grind) (by grind)
  have k1:=hall t ht0
  have k2:=Rat.mul_pos ht0 hs1
  grind
end
theorem A3D(p q r s u v w x y z:Rat):C1 p (p*(u*u)+q) (p*(v*v)+q*(x*x)+r) (p*(w*w)+q*(y*y)+r*(z*z)+s)=p*(1+u*u+v*v+w*w)+q*(1+x*x+y*y)+r*(1+z*z)+s:=by
 unfold C1;grind
theorem A3C(p q r s u v w x y z:Rat):C2 p (p*u) (p*v) (p*w) (p*(u*u)+q) (p*(u*v)+q*x) (p*(u*w)+q*y) (p*(v*v)+q*(x*x)+r) (p*(v*w)+q*(x*y)+r*z) (p*(w*w)+q*(y*y)+r*(z*z)+s)=p*q*(1+x*x+y*y+(u*x-v)*(u*x-v)+(u*y-w)*(u*y-w)+(v*y-w*x)*(v*y-w*x))+p*r*(1+z*z+u*u+(u*z)*(u*z)+(v*z-w)*(v*z-w))+p*s*(1+u*u+v*v)+q*r*(1+z*z+(x*z-y)*(x*z-y))+q*s*(1+x*x)+r*s:=by
 unfold C2;grind
theorem A3B(p q r s u v w x y z:Rat):C3 p (p*u) (p*v) (p*w) (p*(u*u)+q) (p*(u*v)+q*x) (p*(u*w)+q*y) (p*(v*v)+q*(x*x)+r) (p*(v*w)+q*(x*y)+r*z) (p*(w*w)+q*(y*y)+r*(z*z)+s)=p*q*r*(1+z*z+(x*z-y)*(x*z-y)+(u*(x*z-y)-(v*z-w))*(u*(x*z-y)-(v*z-w)))+p*q*s*(1+x*x+(u*x-v)*(u*x-v))+p*r*s*(1+u*u)+q*r*s:=by
 unfold C3 D3;grind
theorem A3A(p q r s u v w x y z:Rat):D4 p (p*u) (p*v) (p*w) (p*(u*u)+q) (p*(u*v)+q*x) (p*(u*w)+q*y) (p*(v*v)+q*(x*x)+r) (p*(v*w)+q*(x*y)+r*z) (p*(w*w)+q*(y*y)+r*(z*z)+s)=p*q*r*s:=by
 unfold D4 Q3 D3;grind
def Mb(A B:Nat->Nat->Rat)(i j:Nat):Rat:=A i 0*B 0 j+A i 1*B 1 j+A i 2*B 2 j+A i 3*B 3 j
def tr4(A:Nat->Nat->Rat):Rat:=A 0 0+A 1 1+A 2 2+A 3 3
def Km(A:Nat->Nat->Rat)(c:Rat)(i j:Nat):Rat:=if i=j then A i j+c else A i j
section
variable {M:Nat->Nat->Rat} (hs:∀i j,M i j=M j i)
include hs
theorem fl2:tr4 (Mb M (Km M (-(C1 (M 0 0) (M 1 1) (M 2 2) (M 3 3))))) = -2*C2 (M 0 0) (M 0 1) (M 0 2) (M 0 3) (M 1 1) (M 1 2) (M 1 3) (M 2 2) (M 2 3) (M 3 3):=by
 simp only [tr4,Mb,Km,C1,C2]
 rw [hs 1 0,hs 2 0,hs 3 0,hs 2 1,hs 3 1,hs 3 2]
 simp
 grind
theorem fl3:tr4 (Mb M (Km (Mb M (Km M (-(C1 (M 0 0) (M 1 1) (M 2 2) (M 3 3))))) (C2 (M 0 0) (M 0 1) (M 0 2) (M 0 3) (M 1 1) (M 1 2) (M 1 3) (M 2 2) (M 2 3) (M 3 3))))=3*C3 (M 0 0) (M 0 1) (M 0 2) (M 0 3) (M 1 1) (M 1 2) (M 1 3) (M 2 2) (M 2 3) (M 3 3):=by
 simp only [tr4,Mb,Km,C1,C2,C3,D3]
 rw [hs 1 0,hs 2 0,hs 3 0,hs 2 1,hs 3 1,hs 3 2]
 simp
 grind
theorem fl4:tr4 (Mb M (Km (Mb M (Km (Mb M (Km M (-(C1 (M 0 0) (M 1 1) (M 2 2) (M 3 3))))) (C2 (M 0 0) (M 0 1) (M 0 2) (M 0 3) (M 1 1) (M 1 2) (M 1 3) (M 2 2) (M 2 3) (M 3 3)))) (-(C3 (M 0 0) (M 0 1) (M 0 2) (M 0 3) (M 1 1) (M 1 2) (M 1 3) (M 2 2) (M 2 3) (M 3 3))))) = -4*D4 (M 0 0) (M 0 1) (M 0 2) (M 0 3) (M 1 1) (M 1 2) (M 1 3) (M 2 2) (M 2 3) (M 3 3):=by
 simp only [tr4,Mb,Km,C1,C2,C3,D3,D4,Q3]
 rw [hs 1 0,hs 2 0,hs 3 0,hs 2 1,hs 3 1,hs 3 2]
 simp
 generalize M 0 0=a,M 0 1=b,M 0 2=c,M 0 3=d,M 1 1=e,M 1 2=f,M 1 3=g,M 2 2=h,M 2 3=i,M 3 3=j
 grind
end
def Sd(st:Nat×Int)(s:Int):Nat×Int:=(if s≠0/\st.2≠0/\s≠st.2 then st.1+1 else st.1,if s≠0 then s else st.2)
def chg(l:List Int):Nat:=(l.foldl Sd (0,0)).1
abbrev L3:List Int:=[-1,0,1]
abbrev L2:List Int:=[0,1]
theorem A2n:∀e1∈L3,∀e2∈L3,∀e3∈L3,∀e4∈L3,(chg [e4,e3,e2,e1,1]=0↔0<=e1/\0<=e2/\0<=e3/\0<=e4):=by decide +kernel
theorem A2o:∀e1∈L3,∀e2∈L3,∀e3∈L3,(chg [-e3,-e2,-e1,-1]=0↔0<=e1/\0<=e2/\0<=e3):=by decide +kernel
theorem A2p:∀e1∈L3,∀e2∈L3,(chg [e2,e1,1]=0↔0<=e1/\0<=e2):=by decide +kernel
theorem A2q:∀e1∈L3,(chg [-e1,-1]=0↔0<=e1):=by decide +kernel
theorem A2j:∀e1∈L2,∀e2∈L2,∀e3∈L2,∀e4∈L2,e4<=e3->e3<=e2->e2<=e1->(chg [e4,-e3,e2,-e1,1]:Int)=e1+e2+e3+e4:=by decide +kernel
theorem A2k:∀e1∈L2,∀e2∈L2,∀e3∈L2,e3<=e2->e2<=e1->(chg [-e3,e2,-e1,1]:Int)=e1+e2+e3:=by decide +kernel
theorem A2l:∀e1∈L2,∀e2∈L2,e2<=e1->(chg [e2,-e1,1]:Int)=e1+e2:=by decide +kernel
theorem A2m:∀e1∈L2,(chg [-e1,1]:Int)=e1:=by decide +kernel
end Go.Proofs.YtnbfnoebjjdmnaaGreat
