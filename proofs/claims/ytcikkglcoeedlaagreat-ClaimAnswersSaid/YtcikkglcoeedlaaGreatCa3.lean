/- Part 3 of the proof of claimAnswers_holds. No condition. -/
import Derived.Laws.AppendOwn
import Derived.Test.YtcikkglcoeedlaaGreatCa1
set_option linter.unusedSimpArgs false
set_option linter.unusedVariables false
set_option maxRecDepth 100000
namespace Go.Proofs.YtcikkglcoeedlaaGreat
open Go.RowKit
variable{vj:Act}{vI:Array Bool}{vS:Array Field}{vr:Array TypeId}{vU:BinOp}{q:Bool}{vM:Exit->Act->World->Prop}{vW:Field}{vb:FuncId}{i j:Int}{vJ:List Operand}{n b T m a k g vk:Nat}{vg vZ:Nat->Value}{va:Oper}{x y vN:Operand}{P:Program}{vD:Prop}{uo:Shape}{d:TypeDesc}{t U:TypeId}{z v:Value}{w:World}
structure GS where
 S:Nat->Nat->Prop
 tag:Nat->Nat
 w:World
structure GS.Ok(s:GS):Prop where
 lt:∀b k,s.S b k->b<s.w.heap.size
 safe:∀b k,Ty s.w b 335->s.S b k
structure GS.Chg(s s':GS):Prop where
 size:s.w.heap.size<=s'.w.heap.size
 up:∀b k,s.S b k->s'.S b k
 cell:∀b cs T fz,s.w.heap[b]? = some (.cells cs T fz)->∃cs' fz',s'.w.heap[b]? = some (.cells cs' T fz')/\∀k,s.S b k->cs'[k]? = cs[k]?
structure GS.Le(s s':GS):Prop where
 ext:Ext s.w s'.w
 up:∀b k,s.S b k->s'.S b k
 old:∀b k,b<s.w.heap.size->s'.S b k->s.S b k
 tag:∀b,b<s.w.heap.size->s'.tag b=s.tag b
 ok:s.Ok->s'.Ok
theorem GS.Le.refl(s:GS):GS.Le s s:=⟨Ext.refl _,λ_ _ h=>h,λ_ _ _ h=>h,λ_ _=>rfl,λh=>h⟩
theorem GS.Le.trans{a b c:GS}(h:GS.Le a b)(k:GS.Le b c):GS.Le a c:=
 ⟨h.ext.trans k.ext,λb B A=>k.up _ _ (h.up _ _ A),λx B E A=>h.old _ _ E (k.old _ _ (Nat.lt_of_lt_of_le E h.ext.size) A),λx E=>(k.tag x (Nat.lt_of_lt_of_le E h.ext.size)).trans (h.tag x E),λA=>k.ok (h.ok A)⟩
variable{s vq:GS}
theorem GS.Le.chg(h:GS.Le s vq):GS.Chg s vq:=⟨h.ext.size,h.up,λx a T K E=>⟨a,K,(h.ext.block (Bm E)).trans E,λ_ _=>rfl⟩⟩
theorem GS.Chg.refl(s:GS):GS.Chg s s:=(GS.Le.refl s).chg
theorem GS.Chg.trans{a b c:GS}(h:GS.Chg a b)(k:GS.Chg b c):GS.Chg a c:=
 ⟨Nat.le_trans h.size k.size,λx y F=>k.up _ _ (h.up _ _ F),λx C T K E=>by
  obtain⟨G,Q,A,B⟩:=h.cell x C T K E;obtain⟨I,R,L,V⟩:=k.cell x G T Q A;exact⟨I,R,L,λy O=>(V y (h.up _ _ O)).trans (B y O)⟩⟩
theorem GS.Le.heap(h:Ext s.w w)(X:w.heap=s.w.heap):GS.Le s { s with w:=w }:=
 ⟨h,λ_ _ h=>h,λ_ _ _ h=>h,λ_ _=>rfl,λA=>⟨λb k F=>by show b<w.heap.size;rw[X];exact A.lt b k F,λb k ⟨a,K,F⟩=>A.safe b k ⟨a,K,by rw[<-X];exact F⟩⟩⟩
def GS.grown(s:GS)(N:World):GS:=⟨λb k=>s.S b k\/(s.w.heap.size<=b/\b<N.heap.size),s.tag,N⟩
theorem EM(h:Ext s.w w):GS.Le s (s.grown w):=
 ⟨h, fun _ _ h => .inl h, fun b k F C => C.elim id fun B => absurd F ZbK, fun _ _ => rfl, fun C => ⟨fun b k F => F.elim (fun B => Nat.lt_of_lt_of_le (C.lt b k B) h.size) fun B => B.2, fun b k ⟨a, K, F⟩ => by
  rcases Nat.lt_or_ge b s.w.heap.size with A | A
  .exact .inl (C.safe b k ⟨a,K,(h.block A).symm.trans F⟩)
  .exact .inr ⟨A,Bm F⟩⟩⟩
def GS.mk'(s:GS)(a:Array Value)(T:TypeId)(i:Nat):GS:=⟨s.S,λb=>if b=s.w.heap.size then i else s.tag b,s.w.alloc (.cells a T)⟩
theorem GS.le_mk'(s:GS)(a:Array Value)(T:TypeId)(i:Nat)(E:T≠335):GS.Le s (s.mk' a T i):=
 ⟨(Ext.refl _).alloc _, fun _ _ h => h, fun _ _ _ h => h, fun b F => by show (if b = s.w.heap.size then i else s.tag b) = _; rw [if_neg ZbK], fun C => ⟨fun b k F => Nat.lt_of_lt_of_le (C.lt b k F) (by show _ ≤ (s.w.alloc _).heap.size; simp), fun b k ⟨G, K, F⟩ => by
  replace F:(s.w.alloc (.cells a T)).heap[b]? = some (.cells G 335 K):=F;rcases Nat.lt_or_ge b s.w.heap.size with A | A
  .exact C.safe b k ⟨G,K,(Below.heap_alloc s.w _ b A).symm.trans F⟩
  .exfalso
   have B:=Bm F;have L:b=s.w.heap.size:=by have V:(s.w.alloc (.cells a T)).heap.size=s.w.heap.size+1:=Array.size_push ..;omega
   rw[L,heap_alloc_new]at F;cases F;exact E rfl⟩⟩
structure D where
 rel:GS->Value->Prop
 st:∀{s s':GS} {v:Value},rel s v->GS.Chg s s'->rel s' v
def ex(u:Value):D:=⟨λ_ v=>v=u,λh _=>h⟩
def Cs:D:=⟨λ_ _=>True,λh _=>h⟩
instance:Inhabited D:=⟨Cs⟩
def Dd(R:List D)(k:Nat):D:=R.getD k Cs
def AJ(ds:List D):D:=⟨λs v=>∃a:Array Value,v=.agg a/\a.size=ds.length/\∀k,k<ds.length->∃u,a[k]? = some u/\u.oneCell'=true/\(Dd ds k).rel s u,
 λ⟨a,A,B,L⟩ I=>⟨a,A,B,λk C=>let⟨u,V,m,z⟩:=L k C;⟨u,V,m,(Dd ds k).st z I⟩⟩⟩
def EY(R:List D):D:=⟨λs v=>∃a:Array Value,v=.tuple a/\a.size=R.length/\∀k,k<R.length->∃u,a[k]? = some u/\(Dd R k).rel s u,
 λ⟨a,A,B,L⟩ I=>⟨a,A,B,λk C=>let⟨u,V,z⟩:=L k C;⟨u,V,(Dd R k).st z I⟩⟩⟩
def Lies(s:GS)(b o:Nat)(T:TypeId)(R:List D):Prop:=
 ∃a K,s.w.heap[b]? = some (.cells a T K)/\∀k,k<R.length->s.S b (o+k)/\∃u,a[o+k]? = some u/\u.oneCell'=true/\(Dd R k).rel s u
theorem Lies.st{s s':GS}{ds:List D}(h:Lies s n b t ds)(I:GS.Chg s s'):Lies s' n b t ds:=by
 obtain⟨a,K,A,B⟩:=h;obtain⟨P,F,L,V⟩:=I.cell n a t K A;refine⟨P,F,L,λk C=>?_⟩;obtain⟨m,u,z,d,E⟩:=B k C;exact⟨I.up _ _ m,u,(V _ m).trans z,d,(Dd ds k).st E I⟩
variable{c:List D}
theorem Lies.cell{b o:Nat}(h:Lies s b o t c){k:Nat}(C:k<c.length):∃u,s.w.cell? ⟨b,o+k,none⟩=some u/\u.oneCell'=true/\(Dd c k).rel s u:=by
 obtain⟨a,K,A,B⟩:=h;obtain⟨_,u,L,V⟩:=B k C;exact⟨u,(CL A).trans L,V⟩
theorem Hx(R:List D)(i k:Nat):Dd (R.drop i) k=Dd R (i+k):=by simp[Dd,List.getElem?_drop]
theorem JO{i k:Nat}(h:k<i):Dd (c.take i) k=Dd c k:=by simp[Dd,List.getElem?_take,h]
theorem Lies.drop{b o:Nat}(h:Lies s b o t c)(i:Nat):Lies s b (o+i) t (c.drop i):=by
 obtain⟨a,K,A,B⟩:=h;refine⟨a,K,A,λk C=>?_⟩;rw[List.length_drop]at C;rw[Hx,Nat.add_assoc];exact B (i+k) ZbK
theorem Lies.take{b o:Nat}(h:Lies s b o t c)(i:Nat):Lies s b o t (c.take i):=by
 obtain⟨a,K,A,B⟩:=h;refine⟨a,K,A,λk C=>?_⟩;rw[List.length_take]at C;rw[JO ZbK];exact B k ZbK
def Fb(T:TypeId)(ds:List D):D:=⟨λs v=>∃b o,v=.pointer (some ⟨b,o,none⟩)/\Lies s b o T ds,λ⟨b,o,A,B⟩ I=>⟨b,o,A,B.st I⟩⟩
def slD(T:TypeId)(F:Nat)(y:List (List D)):D:=
 ⟨λs v=>∃(A:Option Addr) (c:Nat),v=.slice A y.length c/\y.length<=c/\c<=9223372036854775807 /\
  (0<y.length->∃b o,A=some ⟨b,o,none⟩/\(∀k,k<y.length->(y.getD k []).length=F/\Lies s b (o+k*F) T (y.getD k []))),
 λ⟨A,c,B,C,L,V⟩ I=>⟨A,c,B,C,L,λg=>let⟨b,o,m,z⟩:=V g;⟨b,o,m,λk E=>⟨(z k E).1,(z k E).2.st I⟩⟩⟩⟩
def D.le(x y:D):Prop:=∀s v,x.rel s v->y.rel s v
theorem D.le.refl(x:D):D.le x x:=λ_ _ h=>h
theorem Ac{x y:D}(h:x=y):D.le x y:=h▸D.le.refl x
theorem slD.nil(T:TypeId)(k:Nat)(s:GS):(slD T k []).rel s (.slice none 0 0):=⟨none,0,rfl,by simp,by omega,λh=>absurd h ZbV⟩
theorem RD(y:List (List D))(i k:Nat):(y.drop i).getD k []=y.getD (i+k) []:=by simp[List.getElem?_drop]
variable{vl:List (List D)}
theorem MD(h:b<n):(vl.take n).getD b []=vl.getD b []:=by simp[List.getElem?_take,h]
section
namespace RegG
open Go.RowKit
def _root_.Go.Proofs.YtcikkglcoeedlaaGreat.GS.dr(s:GS):GS:={ s with w:=s.w.drew }
def OpStep(P:Program)(o:Oper)(ev:Operand->Value)(s:GS)(R:Value->GS->Prop):Prop:=
 match (execOp ev o).run P s.w with
 |.ok (.value v) N=>∃j:GS,j.w=N/\R v j
 |.ok .skip N=>∃j:GS,j.w=N/\R undef j
 |.ok (.enter f args) N=>Calls P f args N λe H=>∃v,e=.returned v/\∃j:GS,j.w=H/\R v j
 |_=>False
theorem opStep_wp{C:Operand->Value}{R:Value->GS->Prop}{K:Act->World->Prop}(N:BI va.op=true)(E:∀y∈va.op.operands,vj.eval y=C y)
  (h:OpStep P va C s R) (m:∀v (H:GS),R v H->K (vj.put va.dst v) H.w):va.wp P vj s.w K vM:=by
 unfold Oper.wp
 have B:∀a b,va.op≠.select a b:=by
  intro a b e;rw[e]at N;cases N
 rw[execOp_congr va B E];unfold OpStep at h;split at h
 .rename_i v H A;rw[A];obtain⟨j,rfl,h⟩:=h;exact m _ _ h
 .rename_i H A;rw[A];obtain⟨j,rfl,h⟩:=h;exact m _ _ h
 .rename_i f args H A
  rw[A];exact Calls.mono h λe u ⟨v,X,j,d,T⟩=>by subst X;subst d;exact m _ _ T
 .exact h.elim
abbrev Fact:=List Value->GS->Prop
def Known(U:List Shape)(L:List Fact)(i:Nat)(g:Nat->Value)(w:GS):Prop:=
 ∀x,U[i]? = some x->∀j∈x.bef,∀y F,U[j]? = some y->L[j]? = some F->F (y.deps.map g) w
def StepAt(P:Program)(U:List Shape)(L:List Fact)(a:Act)(B:GS)(i:Nat)(o:Oper)(x:Shape)(F:Fact):Prop:=
 ∀(g:Nat->Value) (w:GS) (h:Operand->Value),GS.Le B w->Known U L i g w->Sp h g x.env ->
  (∀t,(∀p∈x.env,p.1≠t)->h (.tmp t)=a.tmps.getD t undef)->(∀v,h (.const v)=v)->(∀f,h (.func f)=.func (.func f) #[] #[]) ->
  (Ew o g=true->OpStep P o h w λv N=>GS.Le w N/\F (x.deps.map (upd g i v)) N)/\(Ew o g=false->F (x.deps.map (upd g i undef)) w)
def StepsAt(P:Program)(U:List Shape)(A:List Fact)(a:Act)(B:GS):Nat->List Oper->List Shape->List Fact->Prop
 |i,o::L,x::S,F::T=>StepAt P U A a B i o x F/\StepsAt P U A a B (i+1) L S T
 |_,_,[],[]=>True
 |_,_,_,_=>False
theorem StepsAt.at{P:Program}{U:List Shape}{M:List Fact}{a:Act}{J:GS}:∀{S:List Shape} {T:List Fact} {L:List Oper} {i:Nat},StepsAt P U M a J i L S T ->
  S.length=T.length/\∀k o x,L[k]? = some o->S[k]? = some x->∃F,T[k]? = some F/\StepAt P U M a J (i+k) o x F
 |[],[],L,i,_=>⟨rfl,λk o x _ E=>by simp at E⟩
 |[],_::_,L,i,h=>by cases L<;>exact h.elim
 |_::_,[],L,i,h=>by cases L<;>exact h.elim
 |x::S,F::T,[],i,h=>h.elim
 |x::S,F::T,o::L,i,h=>Zab
section
variable {P:Program} {L:List Oper} {sh:List Shape} {Rs:List Fact} {a:Act} {w0:GS}
structure HInv(L:List Oper)(sh:List Shape)(Rs:List Fact)(a:Act)(w0:GS)(listed:Array Bool)(g:Nat->Value)(a':Act)(w':GS):Prop where
 size:listed.size=L.length
 closed:∀j o,L[j]? = some o->listed.getD j false=true->∀e∈Bu o,listed.getD e false=true
 tail:∀t,sh.length<=t->listed.getD t false=false
 asz:a'.tmps.size=a.tmps.size
 adef:a'.defers=a.defers
 a1:∀j o d,j<sh.length->L[j]? = some o->listed.getD j false=true->o.dst=some d->a'.tmps[d]? = some (g j)
 a2:∀t,(∀j o,j<sh.length->L[j]? = some o->listed.getD j false=true->o.dst≠some t)->a'.tmps[t]? = a.tmps[t]?
 facts:∀j y F,sh[j]? = some y->Rs[j]? = some F->listed.getD j false=true->F (y.deps.map g) w'
 ext:GS.Le w0 w'
theorem step_inv(H:Dt L sh=true)(Z:Gw L sh.length a.tmps.size=true)
  (xa:∀F∈Rs,∀N R V,GS.Le R V->F N R->F N V)
 {g:Nat->Value} (Q:HInv L sh Rs a w0 vI g vj s) {i:Nat} {F:Fact} (o:L[i]? = some va) (E:sh[i]? = some uo) (hF:Rs[i]? = some F)
  (l:vI.getD i false=false) (f:∀e∈Bu va,vI.getD e false=true) (X:GS.Le s vq) (p:F (uo.deps.map (upd g i z)) vq) :
  HInv L sh Rs a w0 (vI.setIfInBounds i true) (upd g i z) (vj.put va.dst z) vq:=by
 have T:i<sh.length:=DZ E;have r:i<vI.size:=by rw[Q.size];exact(List.getElem?_eq_some_iff.1 o).1
 have U:∀j,(vI.setIfInBounds i true).getD j false=true->j≠i->vI.getD j false=true:=λj h I=>by
  exact ZhY
 have xf:∀j y b,sh[j]? = some y->L[j]? = some b->vI.getD j false=true->i∉y.bef:=λj y b O w K M=>by
  have:=DE H Q.closed j y b O w (Q.closed j b w K) i M;rw[l]at this;cases this
 refine⟨by simp[Q.size],λj b w K e u=>?_,λt J=>?_,?_,?_,λj b d I w K x=>?_,λt J=>?_,λj y G O n K=>?_,Q.ext.trans X⟩
 .by_cases m:j=i
  .subst m
   have:b=va:=Option.some.inj (w.symm.trans o);subst this;exact getD_set_true (f e u)
  .exact getD_set_true (Q.closed j b w (U j K m) e u)
 .rw [getD_set_ne false ZbK];exact Q.tail t J
 .unfold Act.put;split<;>simp[Q.asz]
 .unfold Act.put;split<;>simp[Q.adef]
 .by_cases m:j=i
  .subst m
   have:b=va:=Option.some.inj (w.symm.trans o);subst this
   have xc:d<vj.tmps.size:=by
    rw[Q.asz];have B:=List.all_eq_true.1 Z b (List.mem_of_getElem? (i:=j) (by rw[List.getElem?_take];simp[T,w]));simp only[x,decide_eq_true_eq]at B;exact B
   simp[Act.put,x,upd,xc]
  .have xb:=U j K m
   have S:va.dst≠some d:=λe=>m (Fo H I T w o x e);rw[show upd g i z j=g j by simp[upd,m],<-Q.a1 j b d I w xb x];unfold Act.put;split
   .rename_i Y W
    have:Y≠d:=λe=>S (by rw[W,e]);simp[Array.getElem?_setIfInBounds_ne this]
   .rfl
 .have B:va.dst≠some t:=by
   refine J i va T o ?_;simp[r]
  rw[<-Q.a2 t λj b I w K=>J j b I w (getD_set_true K)];unfold Act.put;split
  .rename_i Y W
   have:Y≠t:=λe=>B (by rw[W,e]);simp[Array.getElem?_setIfInBounds_ne this]
  .rfl
 .by_cases m:j=i
  .subst m
   have c:y=uo:=Option.some.inj (O.symm.trans E);have v:G=F:=Option.some.inj (n.symm.trans hF);subst c;subst v;exact p
  .have xb:=U j K m
   have q:j<L.length:=Nat.lt_of_lt_of_le (DZ O) (Da H);have w:L[j]? = some L[j]:=List.getElem?_eq_getElem q;have xg:=xf j y _ O w xb
   have xd:y.deps.map (upd g i z)=y.deps.map g:=by
    refine List.map_congr_left λk C=>?_;have A:=(Cq H w).2.1 y O;simp only[Et,Bool.and_eq_true]at A;have B:=List.all_eq_true.1 A.1.1.1.1.2 k C;simp only[Bool.or_eq_true,beq_iff_eq]at B
    have xe:k≠i:=by
     rintro rfl;rcases B with B | B
     .exact m B.symm
     .exact xg ZdR
    simp[upd,xe]
   rw[xd];exact xa G (List.mem_of_getElem? n) _ _ _ X (Q.facts j y G O n xb)
theorem eval_operands(H:Dt L sh=true){g:Nat->Value}(J:HInv L sh Rs a w0 vI g vj s)(o:L[n]? = some va)(E:sh[n]? = some uo)
  (Q:vI.getD n false=false) (V:∀e∈Bu va,vI.getD e false=true):∀y∈va.op.operands,vj.eval y=Oa a g uo.env y:=by
 intro y O
 cases y with
 |tmp t=>
  show vj.tmps.getD t undef=_
  cases S:uo.env.find? (λp=>p.1==t)with
  |some p=>
   have G:p∈uo.env:=List.mem_of_find?_eq_some S;have X:p.1=t:=by simpa using List.find?_some S
   obtain⟨A,B,l,I,M⟩:=Gu H E o G;have K:=DE H J.closed n uo va E o V p.2 A;have:=J.a1 p.2 l p.1 B I K M;simp only[Oa,S];rw[X]at this;simp[this]
  |none=>
   simp only[Oa,S];have A:=(Cq H o).2.1 uo E;simp only[Et,Bool.and_eq_true]at A;have B:=List.all_eq_true.1 A.1.1.2 (.tmp t) ZeG;simp only[Bool.or_eq_true]at B;rcases B with B | B
   .exfalso
    have:t∈uo.env.map (·.1):=Zih
    obtain⟨p,G,X⟩:=List.mem_map.1 this;have:=List.find?_eq_none.1 S p G;simp[X]at this
   .have:vj.tmps[t]? = a.tmps[t]?:=by
     refine J.a2 t λj N F w K R=>?_;have C:=List.all_eq_true.1 B j (List.mem_range.2 F);rw[w]at C;simp[R]at C;rcases C with C | C
     .subst C;rw[Q]at K;cases K
     .cases W:sh[j]? with
      |none=>rw[List.getElem?_eq_none_iff]at W;omega
      |some z=>
       have:=DE H J.closed j z N W w (J.closed j N w K) n (by simpa[CT,W]using C);rw[Q]at this;cases this
    rw[Array.getD_eq_getD_getElem?,Array.getD_eq_getD_getElem?,this]
 |const v=>rfl
 |global b=>rfl
 |func f=>rfl
theorem wanted_of(H:Dt L sh=true){g:Nat->Value}(J:HInv L sh Rs a w0 vI g vj s)(o:L[n]? = some va)(E:sh[n]? = some uo)
  (G:∀e∈Bu va,vI.getD e false=true):Region.wanted va (yielded L.toArray vj.tmps)=Ew va g:=Zac
theorem head_run(H:Dt L sh=true)(Z:Gw L sh.length a.tmps.size=true)
  (xA:∀F∈Rs,∀T w1 w2,GS.Le w1 w2->F T w1->F T w2) (xj:StepsAt P sh Rs a w0 0 L sh Rs)
  (xr:∀g N,GS.Le w0 N->(∀(j:Nat) (y:Shape) (F:Fact),sh[j]? = some y->Rs[j]? = some F->F (y.deps.map g) N)->wpList P L.toArray vM (L.drop sh.length) (EG g (L.take sh.length) 0 a) N.w) :
  ∀(f:Nat) (z:Array Bool) (g:Nat->Value) (a':Act) (N:GS),Ij z=f->HInv L sh Rs a w0 z g a' N->wpAny P .any L.toArray vM f z a' N.w:=by
 obtain⟨xb,xu⟩:=xj.at;intro f
 induction f with
 |zero=>
  intro z g a' N m xa
  have xh:∀j,j<L.length->z.getD j false=true:=λj R=>Zad
  refine LA H 0 L.length z a' N.w (Da H) ZbK xa.size xh (λj R=>by simp[xa.size,R]) ?_
  exact Zae
 |succ f ih=>
  intro z g a' N m xa;by_cases xl:∀j,j<sh.length->z.getD j false=true
  .have xK:f+1+sh.length=L.length:=Zaf
   refine LA H (f+1) sh.length z a' N.w (Nat.le_refl _) xK xa.size xl xa.tail ?_;have:=xr g N xa.ext λj y F O hF=>xa.facts j y F O hF (xl j (DZ O))
   have xG:EG g (L.take sh.length) 0 a=a':=Zag
   rw[xG]at this;exact this
  .have xH:∃j,j<sh.length/\z.getD j false=false:=Classical.byContradiction λxq=>xl λj R=>Zah
   obtain⟨j0,xL,xt⟩:=xH;refine⟨λS=>?_,λi M=>?_⟩
   .obtain ⟨k,_,C⟩:=JH H xa.size j0 (Nat.lt_of_lt_of_le xL (Da H)) xt
    rw[S]at C;cases C
   .obtain ⟨xf,o,r,xe⟩:=LD H xa.size M
    have xp:i<sh.length:=Zai
    have E:sh[i]? = some sh[i]:=List.getElem?_eq_getElem xp;obtain⟨F,hF,u⟩:=xu i o _ r E;rw[Nat.zero_add]at u;have xn:i<z.size:=ZhV
    have xq:=(Cq H r).2.1 _ E;simp only[Et,Bool.and_eq_true]at xq
    obtain⟨xs,xv⟩:=u g N (Oa a g sh[i].env) xa.ext (λx xw j R y G O hG=>by
      have:x=sh[i]:=Option.some.inj (xw.symm.trans E);subst this;exact xa.facts j y G O hG (DE H xa.closed i _ o E r xe j R))
     (Qb λp J=>by
      obtain⟨A,B,Y,xc,xd⟩:=Gu H E r J
      cases xi:sh[i].env.find? (λq=>q.1==p.1)with
      |none=>have:=List.find?_eq_none.1 xi p J;simp at this
      |some q=>
       have w:=List.mem_of_find?_eq_some xi;have xM:q.1=p.1:=by simpa using List.find?_some xi
       obtain⟨_,V,o2,xx,xo⟩:=Gu H E r w;rw[xM]at xo;have:=Fo H V B xx xc xo xd;simp only[Oa,xi,this])
     (λt K=>by
      have:sh[i].env.find? (λq=>q.1==t)=none:=List.find?_eq_none.2 λp J=>by simpa using K p J
      simp only[Oa,this])
     (λ_=>rfl) (λ_=>rfl)
    have xN:=wanted_of H xa r E xe
    have xI:∀v w2 b,(a'.put o.dst v)=b->GS.Le N w2->F (sh[i].deps.map (upd g i v)) w2->wpAny P .any L.toArray vM f (z.setIfInBounds i true) b w2.w:=λv w2 b I X xy=>by
     subst I;refine ih _ (upd g i v) _ _ ?_ (step_inv H Z xA xa r E hF xf xe X xy);have:=Lf xn xf;omega
    unfold wpOp;have xx:L.toArray[i]? = some o:=by simpa using r
    rw[xx];show if Region.wanted o (yielded L.toArray a'.tmps)=true then _ else _
    rw[xN];split
    .rename_i hw
     exact Zij
    .rename_i hw
     exact xI undef N _ rfl (GS.Le.refl _) (xv (by simpa using hw))
theorem wp_region_ext{L:List Oper}{a:Act}(A:wpAny P .any L.toArray vM L.toArray.size (Array.replicate L.toArray.size false) a s.dr.w->vD)(sh:List Shape)(Rs:List Fact)(H:Dt L sh=true)(Z:Gw L sh.length a.tmps.size=true)
  (O:∀F∈Rs,∀G e C,GS.Le e C->F G e->F G C) (V:StepsAt P sh Rs a s.dr 0 L sh Rs)
  (R:∀g N,GS.Le s.dr N->(∀(j:Nat) (y:Shape) (F:Fact),sh[j]? = some y->Rs[j]? = some F->F (y.deps.map g) N)->wpList P L.toArray vM (L.drop sh.length) (EG g (L.take sh.length) 0 a) N.w) :
  vD:=by
 refine A ?_;have w:Ij (Array.replicate L.toArray.size false)=L.toArray.size:=by simp[Ij,List.filter_replicate]
 refine head_run H Z O V R _ _ (λ_=>undef) a s.dr w ?_
 have B:∀j,(Array.replicate L.toArray.size false).getD j false=false:=λj=>Zaj
 exact⟨by simp,(λj o _ h=>by rw[B]at h;cases h),λt _=>B t,rfl,rfl,(λj o d _ _ h=>by rw[B]at h;cases h),λt _=>rfl,(λj y F _ _ h=>by rw[B]at h;cases h),GS.Le.refl _⟩
end
abbrev VFact:=Value->GS->Prop
def OpsKnown(s:List VFact)(h:Operand->Value)(w:GS):List (Nat×Nat)->Prop
 |[]=>True
 |(t,j)::r=>(∀F,s[j]? = some F->F (h (.tmp t)) w)/\OpsKnown s h w r
def UStep(P:Program)(s:List VFact)(a:Act)(B:GS)(o:Oper)(env:List (Nat×Nat))(F:VFact):Prop:=
 ∀(w:GS) (h:Operand->Value),GS.Le B w->OpsKnown s h w env ->
  (∀t,(∀p∈env,p.1≠t)->h (.tmp t)=a.tmps.getD t undef)->(∀v,h (.const v)=v)->(∀f,h (.func f)=.func (.func f) #[] #[]) ->
  match o.guard with
  |none=>OpStep P o h w λv N=>GS.Le w N/\F v N
  |some (j,b)=>∀q,(∀G,s[j]? = some G->G q w)->(q=.bool b->OpStep P o h w λv N=>GS.Le w N/\F v N)/\(q≠.bool b->F undef w)
def USteps(P:Program)(s:List VFact)(a:Act)(B:GS):List Oper->List (List (Nat×Nat))->List VFact->Prop
 |o::L,x::S,F::T=>UStep P s a B o x F/\USteps P s a B L S T
 |_,[],[]=>True
 |_,_,_=>False
def unF(F:VFact):Fact:=λG w=>match G with | [v]=>F v w | _=>False
theorem usteps_steps{P:Program}{a:Act}{w0:GS}{Fs:List VFact}{sh:List Shape}{L0:List Oper}(H:Dt L0 sh=true)(xq:∀(k:Nat) (x:Shape),sh[k]? = some x->x.deps=[k]) :
  ∀{L:List Oper} {X:List (List (Nat×Nat))} {bs:List (List Nat)} {T:List VFact} {i:Nat},(∀k,L[k]? = L0[i+k]?)->(∀k,(Fc i X bs)[k]? = sh[i+k]?)->X.length=bs.length->USteps P Fs a w0 L X T ->
   StepsAt P sh (Fs.map unF) a w0 i L (Fc i X bs) (T.map unF)
 |L,[],[],[],i,_,_,_,_=>by cases L<;>exact trivial
 |L,[],[],_::_,i,_,_,_,h=>by cases L<;>exact h.elim
 |L,[],_::_,T,i,_,_,M,h=>by simp at M
 |L,_::_,[],T,i,_,_,M,h=>by simp at M
 |[],_::_,_::_,T,i,_,_,_,h=>by cases T<;>exact h.elim
 |_::_,_::_,_::_,[],i,_,_,_,h=>h.elim
 |o::L,e::X,b::bs,F::T,i,U,s,M,h=>Zak
theorem wp_region_u{L:List Oper}(t:wpAny P .any L.toArray vM L.toArray.size (Array.replicate L.toArray.size false) vj s.dr.w->vD)(n:List (List (Nat×Nat)))(J:List (List Nat))(M:List VFact)
  (C:(n.length==J.length&&n.length==M.length)=true) (H:Dt L (Fc 0 n J)=true) (Z:Gw L n.length vj.tmps.size=true)
  (W:∀F∈M,∀v B I,GS.Le B I->F v B->F v I) (V:USteps P M vj s.dr L n M)
  (R:∀(g:Nat->Value) (N:GS),GS.Le s.dr N->(∀(j:Nat) (F:VFact),M[j]? = some F->F (g j) N)->wpList P L.toArray vM (L.drop n.length) (EG g (L.take n.length) 0 vj) N.w) :
  vD:=by
 simp only[Bool.and_eq_true,beq_iff_eq]at C
 have Y:∀(n:List (List (Nat×Nat))) (J:List (List Nat)) (i:Nat),n.length=J.length->(Fc i n J).length=n.length:=by
  intro n
  induction n with
  |nil=>intro J i _;cases J<;>rfl
  |cons e n q=>
   intro J i h
   cases J with
   |nil=>simp at h
   |cons b J=>simp[Fc,q J (i+1) ZcY]
 have K:=Y n J 0 C.1;refine wp_region_ext t (Fc 0 n J) (M.map unF) H Zeh ?_ ?_ ?_
 .intro F hF A B I X h
  obtain⟨G,Q,rfl⟩:=List.mem_map.1 hF;unfold unF at *;split at h
  .rename_i v;exact W G Q v B I X h
  .exact h.elim
 .exact usteps_steps H (λk x E=>by have:=(Jp E).1;rwa [Nat.zero_add]at this) (λk=>by rw[Nat.zero_add]) (λk=>by rw[Nat.zero_add]) C.1 V
 .intro g N S p
  rw[K];refine R g N S λj F hF=>?_
  have m:j<(Fc 0 n J).length:=by
   rw[K];have:=(List.getElem?_eq_some_iff.1 hF).1;omega
  have O:(Fc 0 n J)[j]? = some (Fc 0 n J)[j]:=List.getElem?_eq_getElem m;have:=p j _ (unF F) O (by rw[List.getElem?_map,hF];rfl);rw[(Jp O).1]at this;simpa[unF]using this
def Stab(F:VFact):Prop:=∀v e A,GS.Le e A->F v e->F v A
def StabAll:List VFact->Prop
 |[]=>True
 |F::r=>Stab F/\StabAll r
theorem StabAll.mem:∀{s:List VFact},StabAll s->∀F∈s,Stab F
 |[],_,F,h=>by cases h
 |G::r,h,F,hF=>Zal
theorem wp_region_v{L:List Oper}{w:GS}(t:wpAny P .any L.toArray vM L.toArray.size (Array.replicate L.toArray.size false) vj w.dr.w->vD)(n:List (List (Nat×Nat)))(B:List (List Nat))(s:List VFact)
  (A:(n.length==B.length&&n.length==s.length)=true) (H:Dt L (Fc 0 n B)=true) (Z:Gw L n.length vj.tmps.size=true) (stab:StabAll s) (steps:USteps P s vj w.dr L n s)
  (fin:∀(g:Nat->Value) (N:GS),GS.Le w.dr N->(∀(j:Nat) (F:VFact),s[j]? = some F->F (g j) N)->wpList P L.toArray vM (L.drop n.length) (EG g (L.take n.length) 0 vj) N.w) :
  vD:=
 wp_region_u t n B s A H Z (λF hF=>stab.mem F hF) steps fin
end RegG
theorem IF(s:GS):GS.Le s s.dr:=GS.Le.heap ((Ext.refl _).drew) rfl
structure OD where
 rel:GS->Value->Prop
 blk:GS->Value->Nat->Prop
 lt:∀{s:GS} {v:Value} {b:Nat},rel s v->blk s v b->b<s.w.heap.size
 keep:∀{s s':GS} {v:Value},rel s v->GS.Chg s s'->(∀b,blk s v b->s'.w.heap[b]? = s.w.heap[b]? /\ ∀k,s'.S b k↔s.S b k)->rel s' v/\∀b,blk s' v b->blk s v b
inductive AV
 |d (x:D)
 |ptr (id off:Nat)
 |own (id:Nat)
 |fn (f:FuncId) (caps:List Nat)
instance:Inhabited AV:=⟨.d Cs⟩
inductive Ow
 |dead
 |var (T:TypeId) (cells:List AV)
 |row (T:TypeId) (sz:Nat) (rows:List (List D))
 |obj (O:OD)
 |pin (l:List (Value×AV))
instance:Inhabited Ow:=⟨.dead⟩
structure AS where
 fr:List (Nat×AV)
 hp:List Ow
def BV:List (Nat×AV)->Nat->Option AV
 |[],_=>none
 |(a,v)::r,t=>bif Nat.beq a t then some v else BV r t
theorem En:∀{l:List (Nat×AV)} {t:Nat} {U:AV},BV l t=some U->(t,U)∈l
 |[],_,_,h=>by cases h
 |(a,v)::r,t,U,h=>by
  unfold BV at h
  cases F:Nat.beq a t with
  |true=>
   rw[F]at h;have c:a=t:=Nat.eq_of_beq_eq_true F;have A:v=U:=Option.some.inj h;subst c;subst A;exact List.mem_cons_self
  |false=>
   rw[F]at h;exact List.mem_cons_of_mem _ (En h)
def Dg:Value->Option Nat
 |.pointer (some a)=>some a.block
 |.slice (some a) _ _=>some a.block
 |_=>none
def fnV(f:FuncId)(G:List Value):Value:=bif Nat.blt f 1000000 then .func (.func f) #[] G.toArray else .func (.func (f-1000000)) G.toArray #[]
def AVr(m:Nat)(W:Nat->Value)(s:GS):AV->Value->Prop
 |.d x,v=>x.rel s v
 |.ptr id off,v=>id<m/\∃b,W id=.pointer (some ⟨b,0,none⟩)/\v=.pointer (some ⟨b,off,none⟩)
 |.own id,v=>id<m/\v=W id
 |.fn f N,v=>(∀i∈N,i<m)/\v=fnV f (N.map W)
variable{h:AV}
theorem AVr.chg{m:Nat}{ρ:Nat->Value}{s s':GS}{v:Value}(A:AVr m ρ s h v)(I:GS.Chg s s'):AVr m ρ s' h v:=by
 cases h with
 |d x=>exact x.st A I
 |ptr id off=>exact A
 |own id=>exact A
 |fn f N=>exact A
theorem AVr.mono{m F:Nat}{v:Value}(A:AVr m vg s h v)(t:m<=F)(E:∀i,i<m->vZ i=vg i):AVr F vZ s h v:=by
 cases h with
 |d x=>exact A
 |ptr id off=>
  obtain⟨B,b,C,L⟩:=A;exact⟨Nat.lt_of_lt_of_le B t,b,(E id B).trans C,L⟩
 |own id=>exact⟨Nat.lt_of_lt_of_le A.1 t,A.2.trans (E id A.1).symm⟩
 |fn f N=>exact⟨λi M=>Nat.lt_of_lt_of_le (A.1 i M) t,by rw[A.2,List.map_congr_left λi M=>(E i (A.1 i M)).symm]⟩
def OwR(base m:Nat)(W:Nat->Value)(s:GS)(i:Nat):Ow->Prop
 |.dead=>True
 |.var T cells=>∃(b:Nat) (a:Array Value),W i=.pointer (some ⟨b,0,none⟩)/\base<=b/\s.w.heap[b]? = some (.cells a T (0,0))/\a.size=cells.length/\T≠335/\(∀k,¬s.S b k)/\∀(k:Nat) av,cells[k]? = some av->∃u:Value,a[k]? = some u/\u.oneCell'=true/\AVr m W s av u
 |.row T A y=>∃Z:List Value,s.w.ownsRow base T A (W i) y.length Z/\T≠335/\0<A/\(∀b,Dg (W i)=some b->∀k,s.S b k↔k<y.length*A)/\∀k,k<y.length->(y.getD k []).length=A/\∀j,j<A->∃u,Z[k*A+j]? = some u/\u.oneCell'=true/\(Dd (y.getD k []) j).rel s u
 |.obj O=>O.rel s (W i)
 |.pin l=>∀p∈l,AVr m W s p.2 p.1
def OwB(s:GS)(v:Value):Ow->Nat->Prop
 |.dead,_=>False
 |.var _ _,b=>Dg v=some b
 |.row _ _ _,b=>Dg v=some b
 |.obj O,b=>O.blk s v b
 |.pin _,_=>False
variable{vs:Ow}
theorem OwR.blk_lt0{base m:Nat}{i:Nat}(h:OwR base m vg s i vs){b:Nat}(F:OwB s (vg i) vs b):b<s.w.heap.size:=by
 cases vs with
 |dead=>exact F.elim
 |pin l=>exact F.elim
 |obj O=>exact O.lt h F
 |var T cells=>
  obtain⟨g,a,A,B,L,_⟩:=h;replace F:Dg (vg i)=some b:=F;rw[A]at F;cases F;exact Bm L
 |row T k y=>
  obtain⟨Z,⟨A,B⟩,_⟩:=h;replace F:Dg (vg i)=some b:=F;rcases B with⟨c,_⟩ | ⟨g,cap,cur,c,e2,e3,_⟩
  .rw [c]at F;cases F
  .rw [c]at F;cases F;exact Bm e3
theorem OwB.keep(h:OwR n b vg s T vs)(I:GS.Chg s vq)(F:∀m,OwB s (vg T) vs m->vq.w.heap[m]? = s.w.heap[m]? /\ ∀k,vq.S m k↔s.S m k)(E:OwB vq (vg T) vs m):OwB s (vg T) vs m:=by
 cases vs with
 |obj O=>exact(O.keep h I F).2 m E
 |_=>exact E
theorem OwB.le{base m:Nat}{ρ:Nat->Value}{s s':GS}{i:Nat}{o:Ow}(h:OwR base m ρ s i o)(K:GS.Le s s'){b:Nat}(E:OwB s' (ρ i) o b):OwB s (ρ i) o b:=
 OwB.keep h K.chg (λc I=>have Q:=h.blk_lt0 I;⟨K.ext.block Q,λk=>⟨K.old c k Q,K.up c k⟩⟩) E
theorem OwR.le{base m:Nat}{ρ:Nat->Value}{s s':GS}{i:Nat}{o:Ow}(h:OwR base m ρ s i o)(K:GS.Le s s'):OwR base m ρ s' i o:=by
 cases o with
 |dead=>trivial
 |var T cells=>
  obtain⟨b,a,A,B,L,V,M,z,d⟩:=h;refine⟨b,a,A,B,(K.ext.block (Bm L)).trans L,V,M,λk C=>z k (K.old b k (Bm L) C),λk U C=>?_⟩;obtain⟨u,N,S,R⟩:=d k U C;exact⟨u,N,S,R.chg K.chg⟩
 |row T J y=>
  obtain⟨Z,⟨A,B⟩,L,V,M,z⟩:=h;refine⟨Z,⟨A,?_⟩,L,V,λb F k=>?_,λk C=>⟨(z k C).1,λj e=>?_⟩⟩
  .rcases B with B | ⟨g,cap,cur,E,e2,e3,e4⟩
   .exact .inl B
   .exact .inr ⟨g,cap,cur,E,e2,(K.ext.block (Bm e3)).trans e3,e4⟩
  .have Q:b<s.w.heap.size:=by
    rcases B with⟨E,_⟩ | ⟨g,cap,cur,E,e2,e3,e4⟩
    .rw [E]at F;cases F
    .rw [E]at F;cases F;exact Bm e3
   exact⟨λC=>(M b F k).1 (K.old b k Q C),λC=>K.up b k ((M b F k).2 C)⟩
  .obtain ⟨u,N,S,R⟩:=(z k C).2 j e
   exact⟨u,N,S,(Dd _ j).st R K.chg⟩
 |obj O=>exact(O.keep h K.chg λc I=>have Q:=O.lt h I;⟨K.ext.block Q,λk=>⟨K.old c k Q,K.up c k⟩⟩).1
 |pin l=>exact λp G=>(h p G).chg K.chg
def HpOk(base:Nat)(W:Nat->Value)(s:GS)(G:List Ow):Prop:=∀i o,G[i]? = some o->OwR base G.length W s i o
theorem HpOk.le{ρ:Nat->Value}{s s':GS}{hp:List Ow}(h:HpOk n ρ s hp)(K:GS.Le s s'):HpOk n ρ s' hp:=λi o M=>(h i o M).le K
def GG(hp:List Ow):AV->Option D
 |.d x=>some x
 |.own id=>match hp[id]? with
  |some (.row T k y)=>some (slD T k y)
  |_=>none
 |.ptr _ _=>none
 |.fn _ _=>none
variable{r:D}
theorem DN{base:Nat}{ρ:Nat->Value}{hp:List Ow}{av:AV}{v:Value}(l:HpOk base ρ s hp)(h:AVr hp.length ρ s av v)(E:GG hp av=some r):r.rel s v:=by
 cases av with
 |d y=>cases E;exact h
 |ptr id off=>cases E
 |fn f N=>cases E
 |own id=>
  obtain rfl:v=ρ id:=h.2
  replace E:(match hp[id]? with
   |some (.row T G J)=>some (slD T G J)
   |_=>none)=some r:=E
  split at E
  .rename_i T G J X
   cases E;obtain⟨Z,⟨A,B⟩,L,V,m,z⟩:=l id _ X;rcases B with⟨c,I⟩ | ⟨g,cap,cur,c,I,e3,e4,e5,e6,e7⟩
   .rw [c]
    exact⟨none,0,by rw[I],by omega,by omega,λF=>by omega⟩
   .rw [c]
    refine⟨_,cap,rfl,e4,by simpa[maxLen]using e5,λF=>⟨g,0,rfl,λk C=>⟨(z k C).1,cur,(0,0),e3,λj e=>?_⟩⟩⟩;rw[(z k C).1]at e;obtain⟨u,K,O,M⟩:=(z k C).2 j e
    have Q:k*G+j<J.length*G:=by
     have:(k+1)*G<=J.length*G:=Nat.mul_le_mul_right G C;exact Zgn
    refine⟨by rw[Nat.zero_add];exact(m g (by rw[c];rfl) _).2 Q,u,?_,O,M⟩;rw[Nat.zero_add,<-K,<-e7,List.getElem?_take,if_pos Q];simp
  .cases E
def AS.arg(σ:AS):Operand->AV
 |.tmp t=>(BV σ.fr t).getD (.d Cs)
 |.const v=>.d (ex v)
 |.global g=>.d (ex (.pointer (some ⟨g,0,none⟩)))
 |.func f=>.d (ex (.func (.func f) #[] #[]))
def AS.put(σ:AS)(dst:Option Tmp)(r:AV):AS:=
 match dst with
 |some d=>{ σ with fr:=(d,r)::σ.fr }
 |none=>σ
structure GS.LeX(mine:Nat->Prop)(s s':GS):Prop where
 os:s'.w.os=s.w.os
 tape:s'.w.tape=s.w.tape
 output:s'.w.output=s.w.output
 block:∀k,k<s.w.heap.size->¬mine k->s'.w.heap[k]? = s.w.heap[k]?
 chg:GS.Chg s s'
 old:∀b k,b<s.w.heap.size->¬mine b->s'.S b k->s.S b k
 tag:∀b,b<s.w.heap.size->s'.tag b=s.tag b
 ok:s.Ok->s'.Ok
theorem GS.LeX.size{mine:Nat->Prop}{s s':GS}(h:GS.LeX mine s s'):s.w.heap.size<=s'.w.heap.size:=h.chg.size
theorem GS.LeX.refl(z:Nat->Prop)(s:GS):GS.LeX z s s:=⟨rfl,rfl,rfl,λ_ _ _=>rfl,GS.Chg.refl s,λ_ _ _ _ h=>h,λ_ _=>rfl,λh=>h⟩
theorem GS.LeX.trans{mine:Nat->Prop}{a b c:GS}(h:GS.LeX mine a b)(k:GS.Le b c):GS.LeX mine a c:=
 ⟨k.ext.os.trans h.os,k.ext.tape.trans h.tape,k.ext.output.trans h.output,λx E t=>(k.ext.block (Nat.lt_of_lt_of_le E h.size)).trans (h.block x E t),h.chg.trans k.chg,λx j E t A=>h.old x j E t (k.old x j (Nat.lt_of_lt_of_le E h.size) A),λx E=>(k.tag x (Nat.lt_of_lt_of_le E h.size)).trans (h.tag x E),λA=>k.ok (h.ok A)⟩
theorem GS.LeX.le{s s':GS}{mine:Nat->Prop}(t:∀b,¬mine b)(h:GS.LeX mine s s'):GS.Le s s':=
 ⟨⟨h.os,h.tape,h.output,h.size,λk C=>h.block k C (t k)⟩,h.chg.up,λb k F=>h.old b k F (t b),h.tag,h.ok⟩
structure An where
 g:GS
 mine:Nat->Prop
 df:List Deferred
theorem GS.LeX.turn{s0:An}{s s':GS}(h:GS.LeX s0.mine s0.g s){g:Nat}(E:s0.mine g\/s0.g.w.heap.size<=g)(A:s'.w.os=s.w.os)(B:s'.w.tape=s.w.tape)(L:s'.w.output=s.w.output)(V:∀b,b<s.w.heap.size->b≠g->s'.w.heap[b]? = s.w.heap[b]? /\ ∀k,s'.S b k->s.S b k)(I:GS.Chg s s')(J:∀b,b<s.w.heap.size->s'.tag b=s.tag b)(H:s.Ok->s'.Ok):GS.LeX s0.mine s0.g s':=
 ⟨A.trans h.os,B.trans h.tape,L.trans h.output,λk C t=>(V k (Nat.lt_of_lt_of_le C h.size) λe=>by subst e;exact E.elim t (λa=>absurd C ZbK)).1.trans (h.block k C t),h.chg.trans I,λb k F t f=>h.old b k F t ((V b (Nat.lt_of_lt_of_le F h.size) λe=>by subst e;exact E.elim t (λa=>absurd F ZbK)).2 k f),λb F=>(J b (Nat.lt_of_lt_of_le F h.size)).trans (h.tag b F),λa=>H (h.ok a)⟩
structure StI(s0:An)(n:Nat)(σ:AS)(a:Act)(s:GS)(ρ:Nat->Value):Prop where
 le:GS.LeX s0.mine s0.g s
 ok:s.Ok
 fr:∀t av,BV σ.fr t=some av->AVr σ.hp.length ρ s av (a.tmps.getD t undef)
 sz:a.tmps.size=n
 df:a.defers=s0.df
 hp:HpOk 0 ρ s σ.hp
 sep:∀i j o o',i≠j->σ.hp[i]? = some o->σ.hp[j]? = some o'->∀b,OwB s (ρ i) o b->¬OwB s (ρ j) o' b
 own:∀i o b,σ.hp[i]? = some o->OwB s (ρ i) o b->s0.mine b\/s0.g.w.heap.size<=b
def St(s0:An)(n:Nat)(d:AS)(a:Act)(w:World):Prop:=∃(s:GS) (W:Nat->Value),s.w=w/\StI s0 n d a s W
theorem StI.arg{s0:An}{σ:AS}(h:StI s0 n σ vj s vg)(x:Operand):AVr σ.hp.length vg s (σ.arg x) (vj.eval x):=by
 cases x with
 |tmp t=>
  show AVr σ.hp.length vg s ((BV σ.fr t).getD (.d Cs)) (vj.tmps.getD t undef)
  cases K:BV σ.fr t with
  |none=>exact trivial
  |some U=>exact h.fr t U K
 |const v=>exact rfl
 |global g=>exact rfl
 |func f=>exact rfl
theorem CD(t u:Nat)(U:AV)(l:List (Nat×AV)):BV ((t,U)::l) u=if t=u then some U else BV l u:=by
 show(bif Nat.beq t u then some U else BV l u)=_
 cases F:Nat.beq t u with
 |true=>rw[if_pos (Nat.eq_of_beq_eq_true F)];rfl
 |false=>rw[if_neg (Nat.ne_of_beq_eq_false F)];rfl
theorem StI.put{s0:An}{σ:AS}{a:Act}{s s':GS}(h:StI s0 n σ a s vg)(K:GS.Le s s'){dst:Option Tmp}(Z:∀d,dst=some d->d<n){v:Value}{r:AV}(A:AVr σ.hp.length vg s' r v):StI s0 n (σ.put dst r) (a.put dst v) s' vg:=by
 refine⟨h.le.trans K,K.ok h.ok,λt U J=>?_,?_,?_,?_,?_,?_⟩
 .cases dst with
  |none=>exact(h.fr t U J).chg K.chg
  |some d=>
   simp only[AS.put,CD]at J;simp only[Act.put];by_cases E:d=t
   .rw [if_pos E]at J
    cases J;subst E;have:d<a.tmps.size:=by rw[h.sz];exact Z d rfl
    simp[this];exact A
   .rw [if_neg E]at J
    have:=(h.fr t U J).chg K.chg;rw[Array.getD_eq_getD_getElem?]at this ⊢;rwa [Array.getElem?_setIfInBounds_ne E]
 .unfold Act.put;split<;>simp[h.sz]
 .unfold Act.put;split<;>simp[h.df]
 .cases dst<;>exact h.hp.le K
 .have key:∀i j o l,i≠j->σ.hp[i]? = some o->σ.hp[j]? = some l->∀b,OwB s' (vg i) o b->¬OwB s' (vg j) l b:=λi j o l B M e b F p=>h.sep i j o l B M e b (OwB.le (h.hp i o M) K F) (OwB.le (h.hp j l e) K p)
  cases dst<;>exact key
 .have key:∀i o b,σ.hp[i]? = some o->OwB s' (vg i) o b->s0.mine b\/s0.g.w.heap.size<=b:=λi o b M F=>h.own i o b M (OwB.le (h.hp i o M) K F)
  cases dst<;>exact key
structure Quiet(P:Program)(hp:List Ow)(o:Oper)(arg:Operand->AV)(r:AV):Prop where
 run:∀(base:Nat) (s:GS) (ρ:Nat->Value) (ev:Operand->Value),s.Ok->base<=s.w.heap.size->HpOk base ρ s hp->(∀x,x∈o.op.operands->AVr hp.length ρ s (arg x) (ev x)) ->
  RegG.OpStep P o ev s λv s'=>GS.Le s s'/\AVr hp.length ρ s' r v
theorem BO{o:Oper}{ev:Operand->Value}{R:Value->GS->Prop}{v:Value}(h:(execOp ev o).run P s.w=.ok (.value v) s.w)(T:R v s):RegG.OpStep P o ev s R:=by
 unfold RegG.OpStep;rw[h];exact⟨s,rfl,T⟩
theorem HN{ev:Operand->Value}{R:Value->GS->Prop}{v:Value}(h:(execOp ev va).run P s.w=.ok (.value v) w)(s':GS)(W:s'.w=w)(T:R v s'):RegG.OpStep P va ev s R:=by
 unfold RegG.OpStep;rw[h];exact⟨s',W,T⟩
structure Tab(P:Program)(t:TypeId)(d:TypeDesc)(n bytes:Nat)(z:Value):Prop where
 und:P.underlying t=some d
 inf:(P.info? t).map (λi=>(i.zero,i.size,i.bytes))=some (some z,n,bytes)
theorem Tab.info(h:Tab P t d n b z):∃i,P.info? t=some i/\i.zero=some z/\i.size=n/\i.bytes=b:=by
 have:=h.inf
 cases M:P.info? t with
 |none=>rw[M]at this;cases this
 |some i=>
  rw[M]at this;simp only[Option.map_some,Option.some.injEq,Prod.mk.injEq]at this;exact⟨i,rfl,this.1,this.2.1,this.2.2⟩
theorem Tab.run_size(h:Tab P t d n b z)(w:World):(sizeOf t).run P w=.ok n w:=by
 obtain⟨i,A,_,B,_⟩:=h.info;simp[sizeOf,typeInfo,A,B]
theorem Tab.run_zero(h:Tab P t d n b z)(w:World):(zeroValue t).run P w=.ok z w:=by
 obtain⟨i,A,B,_⟩:=h.info;simp[zeroValue,typeInfo,A,B]
def Ej:TypeDesc->Bool
 |.struct _ |.array _ _=>true
 |_=>false
theorem Tab.run_agg(h:Tab P t d n b z)(w:World):(isAgg t).run P w=.ok (Ej d) w:=by
 unfold isAgg;rw[Sem.run_bind,run_underlying h.und w];cases d<;>simp[Ej]
theorem exD(h:AVr n vg s (.d (ex z)) v):v=z:=h
section
variable {P:Program} {hp:List Ow} {o:Oper} {arg:Operand->AV}
theorem Quiet.move(F:o.op=.move x\/o.op=.assign x)(E:arg x=h):Quiet P hp o arg h:=by
 subst E;refine⟨λbase s W C H l Z A=>?_⟩;rcases F with F | F
 all_goals
  have B:=A x ZdO;exact BO (v:=C x) (by simp[execOp,F]) ⟨GS.Le.refl s,B⟩
theorem Cz {a b v : Value} (I : o.op = .binOp vU t x y U) (E : arg x = .d (ex a)) (O : arg y = .d (ex b)) (C : ∀ w, (do eqGuard vU t x y a b; binOp vU t a b : Sem Value).run P w = .ok v w) : Quiet P hp o arg (.d (ex v)) := by
 refine⟨λbase s W F H l Z h=>?_⟩;have A:=h x (by rw[I];simp[Op.operands]);have B:=h y (by rw[I];simp[Op.operands]);rw[E]at A;rw[O]at B;have c:F x=a:=A;have G:F y=b:=B;have:=C s.w;refine BO (v:=v) ?_ ⟨GS.Le.refl s,rfl⟩;simp only[execOp,I,c,G,Sem.run_bind,this,Result.andThen_ok,Sem.run_pure]
theorem Quiet.add{T U:TypeId}(C:o.op=.binOp .add T x y U)(E:arg x=.d (ex (.int .i64 i)))(O:arg y=.d (ex (.int .i64 j)))(A:-9223372036854775808<=i+j)(B:i+j<=9223372036854775807):Quiet P hp o arg (.d (ex (.int .i64 (i+j)))):=
 Cz C E O λw=>by
  have e:IntKind.i64.wrap (i+j)=i+j:=IntWalk.i64_in _ ZbK;simp[eqGuard,binOp,Op.intArith,e]
theorem Quiet.sub(C:o.op=.binOp .sub t x y U)(E:arg x=.d (ex (.int .i64 i)))(O:arg y=.d (ex (.int .i64 j)))(A:-9223372036854775808<=i-j)(B:i-j<=9223372036854775807):Quiet P hp o arg (.d (ex (.int .i64 (i-j)))):=
 Cz C E O λw=>by
  have e:IntKind.i64.wrap (i-j)=i-j:=IntWalk.i64_in _ ZbK;simp[eqGuard,binOp,Op.intArith,e]
def Vg:BinOp->Int->Int->Option Bool
 |.eql,a,b=>some (a==b)
 |.neq,a,b=>some (a != b)
 |.lss,a,b=>some (decide (a<b))
 |.leq,a,b=>some (decide (a<=b))
 |.gtr,a,b=>some (decide (a>b))
 |.geq,a,b=>some (decide (a ≥ b))
 |_,_,_=>none
theorem Na{k:IntKind}(C:o.op=.binOp vU t x y U)(E:arg x=.d (ex (.int k i)))(O:arg y=.d (ex (.int k j)))(I:Vg vU i j=some q):Quiet P hp o arg (.d (ex (.bool q))):=
 Cz C E O λw=>by
  cases vU<;>simp[Vg]at I<;>subst I<;>simp[eqGuard,binOp,Op.intCmp]
theorem Quiet.not(C:o.op=.unOp .not t x)(E:arg x=.d (ex (.bool q))):Quiet P hp o arg (.d (ex (.bool (!q)))):=by
 refine⟨λbase s W B H l Z h=>?_⟩;have A:=h x (by rw[C];simp[Op.operands]);rw[E]at A;have c:B x=.bool q:=A;exact BO (v:=.bool (!q)) (by simp[execOp,C,c,Op.unary]) ⟨GS.Le.refl s,rfl⟩
theorem NN(G:o.op=.pick x y vN)(E:arg y=h)(I:arg x=.d (ex (.bool true))):Quiet P hp o arg h:=by
 subst E;refine⟨λbase s W F H l Z A=>?_⟩;have B:=A x Zdv;have C:=A y Zdv;rw[I]at B;have c:F x=.bool true:=B;exact BO (v:=F y) (by simp[execOp,G,c,asBool]) ⟨GS.Le.refl s,C⟩
theorem NO(F:o.op=.pick x y vN)(O:arg vN=h)(I:arg x=.d (ex (.bool false))):Quiet P hp o arg h:=by
 subst O;refine⟨λbase s W E H l Z A=>?_⟩;have B:=A x ZdO;have C:=A vN ZdO;rw[I]at B;have c:E x=.bool false:=B;exact BO (v:=E vN) (by simp[execOp,F,c,asBool]) ⟨GS.Le.refl s,C⟩
theorem Qx{k G:IntKind}(C:o.op=.convert t U x)(E:arg x=.d (ex (.int k i)))(j:Tab P t d n b z)(F:Tab P U (.int G) T m v):Quiet P hp o arg (.d (ex (.int G (G.wrap i)))):=by
 refine⟨λbase s W B H l Z h=>?_⟩;have A:=h x (by rw[C];simp[Op.operands]);rw[E]at A;have c:B x=.int k i:=A;refine BO (v:=.int G (G.wrap i)) ?_ ⟨GS.Le.refl s,rfl⟩;simp[execOp,C,c,convert,run_underlying j.und,run_underlying F.und,Conv.intToInt]
theorem Quiet.len{e n b T k:Nat}(I:o.op=.call { callee:=.builtin .len,args:=#[x],argTypes:=#[t] })(E:GG hp (arg x)=some (slD T k vl))(J:Tab P t (.slice e) n b z):Quiet P hp o arg (.d (ex (.int .i64 vl.length))):=by
 refine⟨λbase s W G H l Z h=>?_⟩;have B:=DN Z (h x (by rw[I];simp[Op.operands,Call.operands])) E;obtain⟨A,c,F,C⟩:=B;refine BO (v:=.int .i64 vl.length) ?_ ⟨GS.Le.refl s,rfl⟩;simp[execOp,I,resolve,invoke,builtin,F,Builtin.len_,run_underlying J.und,goInt]
theorem Quiet.index{B:IntKind}(Y:o.op=.indexAddr t x y)(F:GG hp (arg x)=some (slD k g vl))(O:arg y=.d (ex (.int B i)))(J:Tab P t (.slice n) b T z)(X:Tab P n d m a v)(Z:m=g)(K:0<=i)(M:i<vl.length):Quiet P hp o arg (.d (Fb k (vl.getD i.toNat []))):=by
 refine⟨λbase s W N H l e h=>?_⟩;have C:=DN e (h x Zeu) F;have E:=h y Zeu;rw[O]at E;have R:N y=.int B i:=E;obtain⟨A,c,G,L,V,Q⟩:=C;obtain⟨I,p,rfl,S⟩:=Q ZbK;subst Z;refine BO (v:=.pointer (some ⟨I,p+i.toNat*m,none⟩)) ?_ ⟨GS.Le.refl s,I,_,rfl,(S i.toNat ZbK).2⟩;simp[execOp,Y,G,R,Instr.indexAt,asIntOf,run_underlying J.und,K,M,X.run_size,Addr.add_lit]
theorem Mi{A:IntKind}(Q:o.op=.indexAddr t x y)(E:arg x=.d (Fb k c))(O:arg y=.d (ex (.int A i)))(J:Tab P t (.array g n) b T z)(X:Tab P n d m a v)(I:0<=i)(M:i<g):Quiet P hp o arg (.d (Fb k (c.drop (i.toNat*m)))):=by
 refine⟨λbase s W K H l Z h=>?_⟩;have B:=h x Zdw;have C:=h y Zdw;rw[E]at B;rw[O]at C;have N:K y=.int A i:=C;obtain⟨G,p,F,L⟩:=B;refine BO (v:=.pointer (some ⟨G,p+i.toNat*m,none⟩)) ?_ ⟨GS.Le.refl s,G,_,rfl,L.drop _⟩;simp[execOp,Q,F,N,Instr.indexAt,Instr.sureAddr,asIntOf,run_underlying J.und,I,M,X.run_size,Addr.add_lit]
theorem Mh{A:IntKind}(N:o.op=.indexAddr t x y)(E:arg x=.ptr g vk)(O:arg y=.d (ex (.int A i)))(J:Tab P t (.array k n) b T z)(X:Tab P n d m a v)(G:0<=i)(M:i<k):Quiet P hp o arg (.ptr g (vk+i.toNat*m)):=by
 refine⟨λbase s W I H l Z h=>?_⟩;have B:=h x Zet;have C:=h y Zet;rw[E]at B;rw[O]at C;have K:I y=.int A i:=C;obtain⟨Q,F,L,c⟩:=B;refine BO (v:=.pointer (some ⟨F,vk+i.toNat*m,none⟩)) ?_ ⟨GS.Le.refl s,Q,F,L,rfl⟩;simp[execOp,N,c,K,Instr.indexAt,Instr.sureAddr,asIntOf,run_underlying J.und,G,M,X.run_size,Addr.add_lit]
theorem Mj(G:o.op=.fieldAddr t x n)(E:arg x=.d (Fb k c))(j:Tab P t (.struct vS) b T z)(F:vS[n]? = some vW)(X:Tab P vW.type d m a v)(i:m≠0):Quiet P hp o arg (.d (Fb k (c.drop vW.offset))):=by
 refine⟨λbase s W C H l Z h=>?_⟩;have A:=h x Zdv;rw[E]at A;obtain⟨g,p,B,L⟩:=A;refine BO (v:=.pointer (some ⟨g,p+vW.offset,none⟩)) ?_ ⟨GS.Le.refl s,g,_,rfl,L.drop _⟩;simp[execOp,G,B,Instr.fieldAt,Instr.sureAddr,run_underlying j.und,F,fieldPlace,X.run_size,i,Addr.add_lit]
theorem TE(F:o.op=.fieldAddr t x n)(E:arg x=.ptr k g)(j:Tab P t (.struct vS) b T z)(p:vS[n]? = some vW)(X:Tab P vW.type d m a v)(i:m≠0):Quiet P hp o arg (.ptr k (g+vW.offset)):=by
 refine⟨λbase s W C H l Z h=>?_⟩;have A:=h x ZdO;rw[E]at A;obtain⟨I,B,L,c⟩:=A;refine BO (v:=.pointer (some ⟨B,g+vW.offset,none⟩)) ?_ ⟨GS.Le.refl s,I,B,L,rfl⟩;simp[execOp,F,c,Instr.fieldAt,Instr.sureAddr,run_underlying j.und,p,fieldPlace,X.run_size,i,Addr.add_lit]
theorem Jq(J:Tab P t d n b z)(Z:Ej d=true)(g p:Nat)(f:Nat->Value)(h:∀j,j<n->w.cell? ⟨g,p+j,none⟩=some (f j)):(loadVar t ⟨g,p,none⟩).run P w=.ok (.agg ((List.range n).map f).toArray) w:=by
 have:=run_loadCells (P:=P) w ⟨g,p,none⟩ n f λj e=>by rw[Addr.add_lit];exact h j e
 simp[loadVar,J.run_agg,Z,J.run_size,this]
theorem JV(M:o.op=.load t x)(E:arg x=.d (Fb T c))(J:Tab P t d n b z)(Z:Ej d=true)(i:n<=c.length):Quiet P hp o arg (.d (AJ (c.take n))):=by
 refine⟨λbase s W G H l N h=>?_⟩;have A:=h x (by rw[M];simp[Op.operands]);rw[E]at A;obtain⟨g,p,F,L⟩:=A
 have I:∀j,∃u,j<n->s.w.cell? ⟨g,p+j,none⟩=some u/\u.oneCell'=true/\(Dd c j).rel s u:=λj=>by
  by_cases e:j<n
  .obtain ⟨u, V⟩:=L.cell (k:=j) ZbK
   exact⟨u,λ_=>V⟩
  .exact Ziq
 obtain⟨f,K⟩:∃f:Nat->Value,∀j,j<n->s.w.cell? ⟨g,p+j,none⟩=some (f j)/\(f j).oneCell'=true/\(Dd c j).rel s (f j):=⟨λj=>(I j).choose,λj e=>(I j).choose_spec e⟩;have B:=Jq J Z g p f λj e=>(K j e).1;refine BO (v:=.agg ((List.range n).map f).toArray) ?_ ⟨GS.Le.refl s,_,rfl,by simp;omega,λk C=>?_⟩
 .simp [execOp,M,F,Instr.loadAt,Instr.sureAddr,B]
 .rw [List.length_take]at C
  have O:k<n:=by omega
  rw[JO O];exact⟨f k,by simp[O],(K k O).2⟩
theorem Mf(G:o.op=.load t x)(E:arg x=.d (Fb T c))(J:Tab P t d n b z)(Z:Ej d=false)(i:0<c.length):Quiet P hp o arg (.d (Dd c 0)):=by
 refine⟨λbase s W C H l I h=>?_⟩;have A:=h x Zdv;rw[E]at A;obtain⟨g,p,B,L⟩:=A;obtain⟨u,V,m,F⟩:=L.cell i;refine BO (v:=u) ?_ ⟨GS.Le.refl s,F⟩;simp at V;simp[execOp,G,B,Instr.loadAt,Instr.sureAddr,loadVar,J.run_agg,Z,V]
variable{u:List AV}
theorem Me(N:o.op=.load t x)(E:arg x=.ptr m a)(l:hp[m]? = some (.var T u))(J:Tab P t d n b z)(Z:Ej d=false)(I:u[a]? = some h):Quiet P hp o arg h:=by
 refine⟨λbase s W G H e X A=>?_⟩;have B:=A x Zet;rw[E]at B;obtain⟨-,g,L,c⟩:=B;obtain⟨j,F,V,K,M,O,Q,S,R⟩:=X m _ l;rw[L]at V;cases V;obtain⟨C,Y,f,i⟩:=R a h I;refine BO (v:=C) ?_ ⟨GS.Le.refl s,i⟩;have:s.w.cell? ⟨g,a,none⟩=some C:=(CL M).trans Y;simp[execOp,N,c,Instr.loadAt,Instr.sureAddr,loadVar,J.run_agg,Z,this]
def Xd(hp:List Ow):List AV->Option (List D)
 |[]=>some []
 |a::r=>match GG hp a,Xd hp r with
  |some x,some l=>some (x::l)
  |_,_=>none
theorem Qr{hp:List Ow}:∀{l:List AV} {R:List D},Xd hp l=some R->l.length=R.length/\∀(k:Nat) U,l[k]? = some U->GG hp U=some (Dd R k)
 |[],R,h=>by cases h;exact⟨rfl,λk U C=>by cases C⟩
 |a::r,R,h=>by
  unfold Xd at h;split at h
  .rename_i x l A B
   cases h;obtain⟨L,V⟩:=Qr B;refine⟨by simp[L],λk U C=>?_⟩
   cases k with
   |zero=>cases C;exact A
   |succ k=>exact V k U ZcF
  .cases h
theorem VF(S:o.op=.load t x)(E:arg x=.ptr m a)(l:hp[m]? = some (.var T u))(J:Tab P t d n b z)(Z:Ej d=true)(I:Xd hp ((u.drop a).take n)=some c)(i:a+n<=u.length):Quiet P hp o arg (.d (AJ c)):=by
 refine⟨λbase s W N H xa y h=>?_⟩;have A:=h x ZdP;rw[E]at A;obtain⟨-,g,L,M⟩:=A;obtain⟨g',F,V,O,R,Y,q,w,v⟩:=y m _ l;rw[L]at V;cases V;obtain⟨K,X⟩:=Qr I;have r:c.length=n:=by rw[<-K];exact Zhz
 have key:∀j,∃B,j<n->s.w.cell? ⟨g,a+j,none⟩=some B/\B.oneCell'=true/\(Dd c j).rel s B:=λj=>by
  by_cases e:j<n
  .have Q:a+j<u.length:=by omega
   obtain⟨B,U,xb,xc⟩:=v (a+j) _ (List.getElem?_eq_getElem Q);refine⟨B,λ_=>⟨(CL R).trans U,xb,?_⟩⟩;refine DN y xc (X j _ ?_);rw[List.getElem?_take,if_pos e,List.getElem?_drop,List.getElem?_eq_getElem Q]
  .exact Ziq
 obtain⟨f,p⟩:∃f:Nat->Value,∀j,j<n->s.w.cell? ⟨g,a+j,none⟩=some (f j)/\(f j).oneCell'=true/\(Dd c j).rel s (f j):=⟨λj=>(key j).choose,λj e=>(key j).choose_spec e⟩;have G:=Jq J Z g a f λj e=>(p j e).1;refine BO (v:=.agg ((List.range n).map f).toArray) ?_ ⟨GS.Le.refl s,_,rfl,by simp[r],λk C=>?_⟩
 .simp [execOp,S,M,Instr.loadAt,Instr.sureAddr,G]
 .rw [r]at C
  exact⟨f k,by simp[C],(p k C).2⟩
theorem A1i(J:Tab P t d n b z)(Z:Ej d=true)(a:Array Value)(off:Nat):(part t a off).run P w=.ok (.agg (a.extract off (off+n))) w:=by
 simp[part,J.run_agg,Z,J.run_size]
theorem A2m{a:Array Value}(A:a.size=c.length)(B:∀k,k<c.length->∃u,a[k]? = some u/\u.oneCell'=true/\(Dd c k).rel s u)(h:n+b<=c.length):(AJ ((c.drop n).take b)).rel s (.agg (a.extract n (n+b))):=by
 refine⟨_,rfl,by simp;omega,λk C=>?_⟩;have C:k<b:=by simp at C;omega
 obtain⟨u,L,V⟩:=B (n+k) ZbK;rw[JO C,Hx];refine⟨u,?_,V⟩;rw[Array.getElem?_extract,if_pos ZbK];exact L
theorem A0D{A:IntKind}(Q:o.op=.index t x y)(E:arg x=.d (AJ c))(O:arg y=.d (ex (.int A i)))(J:Tab P t (.array k n) b T z)(X:Tab P n d m a v)(Z:Ej d=true)(g:0<=i)(M:i<k)(K:i.toNat*m+m<=c.length):Quiet P hp o arg (.d (AJ ((c.drop (i.toNat*m)).take m))):=by
 refine⟨λbase s W I H l R h=>?_⟩;have B:=h x Zdw;have C:=h y Zdw;rw[E]at B;rw[O]at C;have N:I y=.int A i:=C;obtain⟨F,G,L,V⟩:=B;refine BO (v:=.agg (F.extract (i.toNat*m) (i.toNat*m+m))) ?_ ⟨GS.Le.refl s,A2m L V K⟩;simp[execOp,Q,G,N,Instr.index,asIntOf,run_underlying J.und,g,M,X.run_size,A1i X Z]
theorem Sk{k:IntKind}(R:o.op=.index t x y)(E:arg x=.d (AJ c))(O:arg y=.d (ex (.int k i)))(J:Tab P t (.array a n) b T z)(X:Tab P n d 1 m v)(Z:Ej d=false)(g:0<=i)(M:i<a)(I:i.toNat<c.length):Quiet P hp o arg (.d (Dd c i.toNat)):=by
 refine⟨λbase s W G H l Y h=>?_⟩;have A:=h x (by rw[R];simp[Op.operands]);have B:=h y (by rw[R];simp[Op.operands]);rw[E]at A;rw[O]at B;have N:G y=.int k i:=B;obtain⟨C,F,L,V⟩:=A;obtain⟨u,K,Q,S⟩:=V _ I;refine BO (v:=u) ?_ ⟨GS.Le.refl s,S⟩;simp[execOp,R,F,N,Instr.index,asIntOf,run_underlying J.und,g,M,X.run_size,part,X.run_agg,Z,K]
theorem Quiet.extract{i:Nat}(G:o.op=.extract x i)(E:arg x=.d (EY c))(M:i<c.length):Quiet P hp o arg (.d (Dd c i)):=by
 refine⟨λbase s W F H l Z h=>?_⟩;have A:=h x Zdv;rw[E]at A;obtain⟨a,C,B,L⟩:=A;obtain⟨u,V,m⟩:=L i M;exact BO (v:=u) (by simp[execOp,G,C,Instr.extract,V]) ⟨GS.Le.refl s,m⟩
end
def Abs(P:Program)(f:FuncId)(ds:List D)(r:D):Prop:=
 (∀args w,(callFunc f args).run P w=.ok (.enter f args) w)/\∀(s:GS) (G:List Value),s.Ok->G.length=ds.length->(∀k,k<ds.length->(Dd ds k).rel s (G.getD k undef)) ->
  Calls P f G.toArray s.w λe N=>∃v,e=.returned v/\∃j:GS,j.w=N/\GS.Le s j/\r.rel j v
def ArgsLe(G:List Ow)(arg:Operand->AV):List Operand->List D->Prop
 |[],[]=>True
 |x::l,d::R=>(∃y,GG G (arg x)=some y/\D.le y d)/\ArgsLe G arg l R
 |_,_=>False
variable{vz:Operand->AV}
theorem ArgsLe.nil{hp:List Ow}:ArgsLe hp vz [] []:=trivial
variable{H:List Ow}
theorem ArgsLe.cons{l:List Operand}{d y:D}{ds:List D}(h:GG H (vz x)=some y)(K:D.le y d)(b:ArgsLe H vz l ds):ArgsLe H vz (x::l) (d::ds):=⟨⟨y,h,K⟩,b⟩
theorem ArgsLe.rel{base:Nat}{ρ:Nat->Value}{s:GS}{hp:List Ow}{arg:Operand->AV}{ev:Operand->Value}(F:HpOk base ρ s hp):∀{l:List Operand} {R:List D},ArgsLe hp arg l R->(∀x∈l,AVr hp.length ρ s (arg x) (ev x))->l.length=R.length/\∀k,k<R.length->(Dd R k).rel s ((l.map ev).getD k undef)
 |[],[],_,_=>⟨rfl,λk C=>absurd C ZbV⟩
 |[],_::_,h,_=>h.elim
 |_::_,[],h,_=>h.elim
 |x::l,d::R,⟨⟨y,A,B⟩,L⟩,h=>by
  obtain⟨V,m⟩:=ArgsLe.rel F L λx E=>h x (List.mem_cons_of_mem _ E);refine⟨by simp[V],λk C=>?_⟩
  cases k with
  |zero=>exact B s _ (DN F (h x List.mem_cons_self) A)
  |succ k=>exact m k ZcF
theorem Quiet.call{o:Oper}{f:Operand}(O:o.op=.call { callee:=.value f,args:=vJ.toArray,argTypes:=vr })(p:vz f=.d (ex (.func (.func vb) #[] #[])))(I:Abs P vb c r)(J:ArgsLe H vz vJ c):Quiet P H o vz (.d r):=by
 refine⟨λbase s W G M l Z h=>?_⟩;have A:=h f (by rw[O];simp[Op.operands,Call.operands]);rw[p]at A;have C:G f=.func (.func vb) #[] #[]:=A;obtain⟨B,L⟩:=ArgsLe.rel (ev:=G) Z J λx E=>h x (by rw[O];simp[Op.operands,Call.operands,E]);have V:=I.2 s (vJ.map G) M ZdR L;unfold RegG.OpStep
 have k:(execOp G o).run P s.w=.ok (.enter vb (vJ.map G).toArray) s.w:=by
  simp[execOp,O,resolve,C,Deferred.ofValue,invoke,I.1]
 rw[k];exact V.mono λe N ⟨v,X,j,F,K,b⟩=>⟨v,X,j,F,K,b⟩
structure TyRow where
 t:TypeId
 d:TypeDesc
 n:Nat
 b:Nat
 z:Value
def Yk : List TyRow := [⟨2, .int .i64, 1, 8, .int .i64 0⟩, ⟨3, .int .i64, 1, 8, .int .i64 0⟩, ⟨4, .bool, 1, 1, .bool false⟩, ⟨5, .int .u8, 1, 1, .int .u8 0⟩, ⟨6, .int .u8, 1, 1, .int .u8 0⟩, ⟨8, .struct #[⟨"x",2,0,false,"","runtime",0⟩, ⟨"y",3,1,false,"","runtime",8⟩, ⟨"signed",4,2,false,"","runtime",16⟩, ⟨"code",6,3,false,"","runtime",17⟩], 4, 24, .agg #[.int .i64 0, .int .i64 0, .bool false, .int .u8 0]⟩, ⟨9, .string, 1, 16, .string ByteArray.empty⟩, ⟨10, .string, 1, 16, .string ByteArray.empty⟩, ⟨11, .string, 1, 16, .string ByteArray.empty⟩, ⟨12, .int .u64, 1, 8, .int .u64 0⟩, ⟨14, .struct #[⟨"msg",9,0,false,"","runtime",0⟩, ⟨"addr",12,1,false,"","runtime",16⟩], 2, 24, .agg #[.string ByteArray.empty, .int .u64 0]⟩, ⟨19, .struct #[⟨"typ",17,0,false,"","internal/runtime/maps",0⟩], 1, 8, .agg #[.pointer none]⟩, ⟨22, .slice 5, 1, 24, .slice none 0 0⟩, ⟨24, .slice 28, 1, 24, .slice none 0 0⟩, ⟨26, .struct #[⟨"N",3,0,false,"","",0⟩, ⟨"Eqs",24,1,false,"","",8⟩, ⟨"Neqs",24,2,false,"","",32⟩], 3, 56, .agg #[.int .i64 0, .slice none 0 0, .slice none 0 0]⟩, ⟨27, .slice 114, 1, 24, .slice none 0 0⟩, ⟨28, .slice 114, 1, 24, .slice none 0 0⟩, ⟨29, .slice 36, 1, 24, .slice none 0 0⟩, ⟨30, .slice 36, 1, 24, .slice none 0 0⟩, ⟨31, .slice 3, 1, 24, .slice none 0 0⟩, ⟨32, .slice 131, 1, 24, .slice none 0 0⟩, ⟨34, .struct #[⟨"Kind",3,0,false,"","",0⟩, ⟨"P",28,1,false,"","",8⟩, ⟨"N",3,2,false,"","",32⟩, ⟨"D",3,3,false,"","",40⟩, ⟨"R",3,4,false,"","",48⟩, ⟨"O",30,5,false,"","",56⟩, ⟨"L",24,6,false,"","",80⟩, ⟨"S",31,7,false,"","",104⟩, ⟨"B",32,8,false,"","",128⟩], 9, 152, .agg #[.int .i64 0, .slice none 0 0, .int .i64 0, .int .i64 0, .int .i64 0, .slice none 0 0, .slice none 0 0, .slice none 0 0, .slice none 0 0]⟩, ⟨35, .slice 24, 1, 24, .slice none 0 0⟩, ⟨36, .array 8 3, 8, 64, .agg #[.int .i64 0, .int .i64 0, .int .i64 0, .int .i64 0, .int .i64 0, .int .i64 0, .int .i64 0, .int .i64 0]⟩, ⟨37, .slice 111, 1, 24, .slice none 0 0⟩, ⟨38, .slice 111, 1, 24, .slice none 0 0⟩, ⟨39, .array 8 38, 8, 192, .agg #[.slice none 0 0, .slice none 0 0, .slice none 0 0, .slice none 0 0, .slice none 0 0, .slice none 0 0, .slice none 0 0, .slice none 0 0]⟩, ⟨41, .struct #[⟨"L",36,0,false,"","",0⟩, ⟨"Q",38,8,false,"","",64⟩, ⟨"R",39,9,false,"","",88⟩], 17, 280, .agg #[.int .i64 0, .int .i64 0, .int .i64 0, .int .i64 0, .int .i64 0, .int .i64 0, .int .i64 0, .int .i64 0, .slice none 0 0, .slice none 0 0, .slice none 0 0, .slice none 0 0, .slice none 0 0, .slice none 0 0, .slice none 0 0, .slice none 0 0, .slice none 0 0]⟩, ⟨42, .slice 129, 1, 24, .slice none 0 0⟩, ⟨43, .slice 184, 1, 24, .slice none 0 0⟩, ⟨44, .slice 187, 1, 24, .slice none 0 0⟩, ⟨46, .struct #[⟨"N",3,0,false,"","",0⟩, ⟨"Cof",24,1,false,"","",8⟩, ⟨"G",24,2,false,"","",32⟩, ⟨"O",30,3,false,"","",56⟩, ⟨"C",35,4,false,"","",80⟩, ⟨"Q",35,5,false,"","",104⟩, ⟨"S",35,6,false,"","",128⟩, ⟨"R",41,7,false,"","",152⟩, ⟨"At",42,24,false,"","",432⟩, ⟨"Sq",43,25,false,"","",456⟩, ⟨"X",44,26,false,"","",480⟩, ⟨"B",32,27,false,"","",504⟩], 28, 528, .agg #[.int .i64 0, .slice none 0 0, .slice none 0 0, .slice none 0 0, .slice none 0 0, .slice none 0 0, .slice none 0 0, .int .i64 0, .int .i64 0, .int .i64 0, .int .i64 0, .int .i64 0, .int .i64 0, .int .i64 0, .int .i64 0, .slice none 0 0, .slice none 0 0, .slice none 0 0, .slice none 0 0, .slice none 0 0, .slice none 0 0, .slice none 0 0, .slice none 0 0, .slice none 0 0, .slice none 0 0, .slice none 0 0, .slice none 0 0, .slice none 0 0]⟩, ⟨48, .struct #[⟨"K",26,0,false,"","",0⟩, ⟨"C",34,3,false,"","",56⟩, ⟨"E",46,12,false,"","",208⟩], 40, 736, .agg #[.int .i64 0, .slice none 0 0, .slice none 0 0, .int .i64 0, .slice none 0 0, .int .i64 0, .int .i64 0, .int .i64 0, .slice none 0 0, .slice none 0 0, .slice none 0 0, .slice none 0 0, .int .i64 0, .slice none 0 0, .slice none 0 0, .slice none 0 0, .slice none 0 0, .slice none 0 0, .slice none 0 0, .int .i64 0, .int .i64 0, .int .i64 0, .int .i64 0, .int .i64 0, .int .i64 0, .int .i64 0, .int .i64 0, .slice none 0 0, .slice none 0 0, .slice none 0 0, .slice none 0 0, .slice none 0 0, .slice none 0 0, .slice none 0 0, .slice none 0 0, .slice none 0 0, .slice none 0 0, .slice none 0 0, .slice none 0 0, .slice none 0 0]⟩, ⟨49, .int .i64, 1, 8, .int .i64 0⟩, ⟨55, .slice 212, 1, 24, .slice none 0 0⟩, ⟨56, .slice 64, 1, 24, .slice none 0 0⟩, ⟨58, .struct #[⟨"Kind",5,0,false,"","",0⟩, ⟨"L",55,1,false,"","",8⟩, ⟨"V",56,2,false,"","",32⟩], 3, 56, .agg #[.int .u8 0, .slice none 0 0, .slice none 0 0]⟩, ⟨59, .int .u16, 1, 2, .int .u16 0⟩, ⟨61, .slice 22, 1, 24, .slice none 0 0⟩, ⟨63, .array 2 58, 6, 112, .agg #[.int .u8 0, .slice none 0 0, .slice none 0 0, .int .u8 0, .slice none 0 0, .slice none 0 0]⟩, ⟨64, .int .i8, 1, 1, .int .i8 0⟩, ⟨65, .array 2 64, 2, 2, .agg #[.int .i8 0, .int .i8 0]⟩, ⟨67, .struct #[⟨"Kind",3,0,false,"","",0⟩, ⟨"P",28,1,false,"","",8⟩, ⟨"O",30,2,false,"","",32⟩], 3, 56, .agg #[.int .i64 0, .slice none 0 0, .slice none 0 0]⟩, ⟨83, .struct #[⟨"Part",5,0,false,"","",0⟩, ⟨"At",5,1,false,"","",1⟩, ⟨"By",3,2,false,"","",8⟩], 3, 16, .agg #[.int .u8 0, .int .u8 0, .int .i64 0]⟩, ⟨92, .struct #[⟨"b",22,0,false,"","eliminant/claim",0⟩], 1, 24, .agg #[.slice none 0 0]⟩, ⟨95, .struct #[⟨"B",22,0,false,"","",0⟩, ⟨"Ok",4,1,false,"","",24⟩], 2, 32, .agg #[.slice none 0 0, .bool false]⟩, ⟨103, .struct #[⟨"b",22,0,false,"","eliminant/claim",0⟩], 1, 24, .agg #[.slice none 0 0]⟩, ⟨107, .slice 335, 1, 24, .slice none 0 0⟩, ⟨109, .struct #[⟨"Neg",4,0,false,"","",0⟩, ⟨"Mag",107,1,false,"","",8⟩], 2, 32, .agg #[.bool false, .slice none 0 0]⟩, ⟨111, .struct #[⟨"Num",109,0,false,"","",0⟩, ⟨"Den",109,2,false,"","",32⟩], 4, 64, .agg #[.bool false, .slice none 0 0, .bool false, .slice none 0 0]⟩, ⟨112, .array 8 3, 8, 64, .agg #[.int .i64 0, .int .i64 0, .int .i64 0, .int .i64 0, .int .i64 0, .int .i64 0, .int .i64 0, .int .i64 0]⟩, ⟨114, .struct #[⟨"C",111,0,false,"","",0⟩, ⟨"M",112,4,false,"","",64⟩], 12, 128, .agg #[.bool false, .slice none 0 0, .bool false, .slice none 0 0, .int .i64 0, .int .i64 0, .int .i64 0, .int .i64 0, .int .i64 0, .int .i64 0, .int .i64 0, .int .i64 0]⟩, ⟨129, .struct #[⟨"Lo",111,0,false,"","",0⟩, ⟨"Hi",111,4,false,"","",64⟩], 8, 128, .agg #[.bool false, .slice none 0 0, .bool false, .slice none 0 0, .bool false, .slice none 0 0, .bool false, .slice none 0 0]⟩, ⟨131, .array 8 129, 64, 1024, .agg #[.bool false, .slice none 0 0, .bool false, .slice none 0 0, .bool false, .slice none 0 0, .bool false, .slice none 0 0, .bool false, .slice none 0 0, .bool false, .slice none 0 0, .bool false, .slice none 0 0, .bool false, .slice none 0 0, .bool false, .slice none 0 0, .bool false, .slice none 0 0, .bool false, .slice none 0 0, .bool false, .slice none 0 0, .bool false, .slice none 0 0, .bool false, .slice none 0 0, .bool false, .slice none 0 0, .bool false, .slice none 0 0, .bool false, .slice none 0 0, .bool false, .slice none 0 0, .bool false, .slice none 0 0, .bool false, .slice none 0 0, .bool false, .slice none 0 0, .bool false, .slice none 0 0, .bool false, .slice none 0 0, .bool false, .slice none 0 0, .bool false, .slice none 0 0, .bool false, .slice none 0 0, .bool false, .slice none 0 0, .bool false, .slice none 0 0, .bool false, .slice none 0 0, .bool false, .slice none 0 0, .bool false, .slice none 0 0, .bool false, .slice none 0 0]⟩, ⟨139, .struct #[⟨"k",26,0,false,"","eliminant/claim",0⟩], 3, 56, .agg #[.int .i64 0, .slice none 0 0, .slice none 0 0]⟩, ⟨143, .struct #[⟨"rules",139,0,true,"","eliminant/claim",0⟩, ⟨"c",34,3,false,"","eliminant/claim",56⟩], 12, 208, .agg #[.int .i64 0, .slice none 0 0, .slice none 0 0, .int .i64 0, .slice none 0 0, .int .i64 0, .int .i64 0, .int .i64 0, .slice none 0 0, .slice none 0 0, .slice none 0 0, .slice none 0 0]⟩, ⟨150, .struct #[⟨"claims",143,0,true,"","eliminant/claim",0⟩, ⟨"e",46,12,false,"","eliminant/claim",208⟩], 40, 736, .agg #[.int .i64 0, .slice none 0 0, .slice none 0 0, .int .i64 0, .slice none 0 0, .int .i64 0, .int .i64 0, .int .i64 0, .slice none 0 0, .slice none 0 0, .slice none 0 0, .slice none 0 0, .int .i64 0, .slice none 0 0, .slice none 0 0, .slice none 0 0, .slice none 0 0, .slice none 0 0, .slice none 0 0, .int .i64 0, .int .i64 0, .int .i64 0, .int .i64 0, .int .i64 0, .int .i64 0, .int .i64 0, .int .i64 0, .slice none 0 0, .slice none 0 0, .slice none 0 0, .slice none 0 0, .slice none 0 0, .slice none 0 0, .slice none 0 0, .slice none 0 0, .slice none 0 0, .slice none 0 0, .slice none 0 0, .slice none 0 0, .slice none 0 0]⟩, ⟨152, .struct #[⟨"N",4,0,false,"","",0⟩, ⟨"Cof",4,1,false,"","",1⟩, ⟨"G",4,2,false,"","",2⟩, ⟨"O",4,3,false,"","",3⟩, ⟨"C",4,4,false,"","",4⟩, ⟨"Q",4,5,false,"","",5⟩, ⟨"S",4,6,false,"","",6⟩, ⟨"R",4,7,false,"","",7⟩, ⟨"At",4,8,false,"","",8⟩, ⟨"Sq",4,9,false,"","",9⟩, ⟨"X",4,10,false,"","",10⟩, ⟨"B",4,11,false,"","",11⟩], 12, 12, .agg #[.bool false, .bool false, .bool false, .bool false, .bool false, .bool false, .bool false, .bool false, .bool false, .bool false, .bool false, .bool false]⟩, ⟨184, .struct #[⟨"A",111,0,false,"","",0⟩, ⟨"P",28,4,false,"","",64⟩], 5, 88, .agg #[.bool false, .slice none 0 0, .bool false, .slice none 0 0, .slice none 0 0]⟩, ⟨187, .array 8 111, 32, 512, .agg #[.bool false, .slice none 0 0, .bool false, .slice none 0 0, .bool false, .slice none 0 0, .bool false, .slice none 0 0, .bool false, .slice none 0 0, .bool false, .slice none 0 0, .bool false, .slice none 0 0, .bool false, .slice none 0 0, .bool false, .slice none 0 0, .bool false, .slice none 0 0, .bool false, .slice none 0 0, .bool false, .slice none 0 0, .bool false, .slice none 0 0, .bool false, .slice none 0 0, .bool false, .slice none 0 0, .bool false, .slice none 0 0]⟩, ⟨195, .struct #[⟨"N",64,0,false,"","",0⟩, ⟨"D",64,1,false,"","",1⟩, ⟨"K",5,2,false,"","",2⟩], 3, 3, .agg #[.int .i8 0, .int .i8 0, .int .u8 0]⟩, ⟨201, .int .u64, 1, 8, .int .u64 0⟩, ⟨210, .slice 299, 1, 24, .slice none 0 0⟩, ⟨212, .struct #[⟨"T",210,0,false,"","",0⟩], 1, 24, .agg #[.slice none 0 0]⟩, ⟨222, .array 3 3, 3, 24, .agg #[.int .i64 0, .int .i64 0, .int .i64 0]⟩, ⟨225, .struct #[⟨"lo",3,0,false,"","eliminant/claim",0⟩, ⟨"hi",3,1,false,"","eliminant/claim",8⟩], 2, 16, .agg #[.int .i64 0, .int .i64 0]⟩, ⟨231, .struct #[⟨"Low",3,0,false,"","",0⟩, ⟨"High",3,1,false,"","",8⟩], 2, 16, .agg #[.int .i64 0, .int .i64 0]⟩, ⟨243, .int .u64, 1, 8, .int .u64 0⟩, ⟨299, .array 5 64, 5, 5, .agg #[.int .i8 0, .int .i8 0, .int .i8 0, .int .i8 0, .int .i8 0]⟩, ⟨315, .array 8 4, 8, 8, .agg #[.bool false, .bool false, .bool false, .bool false, .bool false, .bool false, .bool false, .bool false]⟩, ⟨321, .slice 38, 1, 24, .slice none 0 0⟩, ⟨335, .int .u32, 1, 4, .int .u32 0⟩, ⟨346, .slice 109, 1, 24, .slice none 0 0⟩, ⟨375, .int .u8, 1, 1, .int .u8 0⟩]
def Rq:List TyRow->Nat->Option TyRow
 |[],_=>none
 |p::r,t=>bif Nat.beq p.t t then some p else Rq r t
def Xi:List TyRow->Prop
 |[]=>True
 |p::r=>Tab Tryz.prog p.t p.d p.n p.b p.z/\Xi r
theorem Ym:Xi Yk:=⟨⟨Tryz.underlying2,by kernel_rfl⟩,⟨Tryz.underlying3,by kernel_rfl⟩,⟨Tryz.underlying4,by kernel_rfl⟩,⟨Tryz.underlying5,by kernel_rfl⟩,⟨Tryz.underlying6,by kernel_rfl⟩,⟨Tryz.underlying8,by kernel_rfl⟩,⟨Tryz.underlying9,by kernel_rfl⟩,⟨Tryz.underlying10,by kernel_rfl⟩,⟨Tryz.underlying11,by kernel_rfl⟩,⟨Tryz.underlying12,by kernel_rfl⟩,⟨Tryz.underlying14,by kernel_rfl⟩,⟨Tryz.underlying19,by kernel_rfl⟩,⟨Tryz.underlying22,by kernel_rfl⟩,⟨Tryz.underlying24,by kernel_rfl⟩,⟨Tryz.underlying26,by kernel_rfl⟩,⟨Tryz.underlying27,by kernel_rfl⟩,⟨Tryz.underlying28,by kernel_rfl⟩,⟨Tryz.underlying29,by kernel_rfl⟩,⟨Tryz.underlying30,by kernel_rfl⟩,⟨Tryz.underlying31,by kernel_rfl⟩,⟨Tryz.underlying32,by kernel_rfl⟩,⟨Tryz.underlying34,by kernel_rfl⟩,⟨Tryz.underlying35,by kernel_rfl⟩,⟨Tryz.underlying36,by kernel_rfl⟩,⟨Tryz.underlying37,by kernel_rfl⟩,⟨Tryz.underlying38,by kernel_rfl⟩,⟨Tryz.underlying39,by kernel_rfl⟩,⟨Tryz.underlying41,by kernel_rfl⟩,⟨Tryz.underlying42,by kernel_rfl⟩,⟨Tryz.underlying43,by kernel_rfl⟩,⟨Tryz.underlying44,by kernel_rfl⟩,⟨Tryz.underlying46,by kernel_rfl⟩,⟨Tryz.underlying48,by kernel_rfl⟩,⟨Tryz.underlying49,by kernel_rfl⟩,⟨Tryz.underlying55,by kernel_rfl⟩,⟨Tryz.underlying56,by kernel_rfl⟩,⟨Tryz.underlying58,by kernel_rfl⟩,⟨Tryz.underlying59,by kernel_rfl⟩,⟨Tryz.underlying61,by kernel_rfl⟩,⟨Tryz.underlying63,by kernel_rfl⟩,⟨Tryz.underlying64,by kernel_rfl⟩,⟨Tryz.underlying65,by kernel_rfl⟩,⟨Tryz.underlying67,by kernel_rfl⟩,⟨Tryz.underlying83,by kernel_rfl⟩,⟨Tryz.underlying92,by kernel_rfl⟩,⟨Tryz.underlying95,by kernel_rfl⟩,⟨Tryz.underlying103,by kernel_rfl⟩,⟨Tryz.underlying107,by kernel_rfl⟩,⟨Tryz.underlying109,by kernel_rfl⟩,⟨Tryz.underlying111,by kernel_rfl⟩,⟨Tryz.underlying112,by kernel_rfl⟩,⟨Tryz.underlying114,by kernel_rfl⟩,⟨Tryz.underlying129,by kernel_rfl⟩,⟨Tryz.underlying131,by kernel_rfl⟩,⟨Tryz.underlying139,by kernel_rfl⟩,⟨Tryz.underlying143,by kernel_rfl⟩,⟨Tryz.underlying150,by kernel_rfl⟩,⟨Tryz.underlying152,by kernel_rfl⟩,⟨Tryz.underlying184,by kernel_rfl⟩,⟨Tryz.underlying187,by kernel_rfl⟩,⟨Tryz.underlying195,by kernel_rfl⟩,⟨Tryz.underlying201,by kernel_rfl⟩,⟨Tryz.underlying210,by kernel_rfl⟩,⟨Tryz.underlying212,by kernel_rfl⟩,⟨Tryz.underlying222,by kernel_rfl⟩,⟨Tryz.underlying225,by kernel_rfl⟩,⟨Tryz.underlying231,by kernel_rfl⟩,⟨Tryz.underlying243,by kernel_rfl⟩,⟨Tryz.underlying299,by kernel_rfl⟩,⟨Tryz.underlying315,by kernel_rfl⟩,⟨Tryz.underlying321,by kernel_rfl⟩,⟨Tryz.underlying335,by kernel_rfl⟩,⟨Tryz.underlying346,by kernel_rfl⟩,⟨Tryz.underlying375,by kernel_rfl⟩,trivial⟩
theorem OR:∀{l:List TyRow},Xi l->∀{t:Nat} {p:TyRow},Rq l t=some p->p.t=t/\Tab Tryz.prog p.t p.d p.n p.b p.z
 |[],_,_,_,h=>by cases h
 |q::l,⟨A,B⟩,t,p,h=>by
  unfold Rq at h
  cases F:Nat.beq q.t t with
  |true=>rw[F]at h;cases h;exact⟨Nat.eq_of_beq_eq_true F,A⟩
  |false=>rw[F]at h;exact OR B h
theorem Aa(h:Rq Yk t=some ⟨t,d,n,b,z⟩):Tab Tryz.prog t d n b z:=(OR Ym h).2
end
end Go.Proofs.YtcikkglcoeedlaaGreat
