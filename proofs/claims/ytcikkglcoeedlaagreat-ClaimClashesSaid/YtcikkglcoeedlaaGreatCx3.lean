/- Part 3 of the proof of claimClashes_holds. No condition. -/
import Derived.Laws.AppendOwn
import Derived.Test.YtcikkglcoeedlaaGreatCx1
set_option linter.unusedSimpArgs false
set_option linter.unusedVariables false
set_option maxRecDepth 100000
namespace Go.Proofs.YtcikkglcoeedlaaGreat
open Go.RowKit
variable{vi:Act}{vH:Array Bool}{vI:Array Field}{vs:Array TypeId}{vT:BinOp}{p:Bool}{vL:Exit->Act->World->Prop}{vP:Field}{vb:FuncId}{a J:Int}{i:IntKind}{vJ:List Operand}{n b T m e k va vo:Nat}{vg vZ:Nat->Value}{q:Oper}{x y vX:Operand}{P:Program}{vB:Prop}{un:Shape}{d:TypeDesc}{t U:TypeId}{z v:Value}{w:World}
structure GS where
 S:Nat->Nat->Prop
 tag:Nat->Nat
 w:World
structure GS.Ok(s:GS):Prop where
 lt:∀b k,s.S b k->b<s.w.heap.size
 safe:∀b k,Ty s.w b 335->s.S b k
structure GS.Chg(s s':GS):Prop where
 size:s.w.heap.size<=s'.w.heap.size
 up:∀b k,s.S b k->s'.S b k
 cell:∀b cs T fz,s.w.heap[b]? = some (.cells cs T fz)->∃cs' fz',s'.w.heap[b]? = some (.cells cs' T fz')/\∀k,s.S b k->cs'[k]? = cs[k]?
structure GS.Le(s s':GS):Prop where
 ext:Ext s.w s'.w
 up:∀b k,s.S b k->s'.S b k
 old:∀b k,b<s.w.heap.size->s'.S b k->s.S b k
 tag:∀b,b<s.w.heap.size->s'.tag b=s.tag b
 ok:s.Ok->s'.Ok
theorem GS.Le.refl(s:GS):GS.Le s s:=⟨Ext.refl _,λ_ _ h=>h,λ_ _ _ h=>h,λ_ _=>rfl,λh=>h⟩
theorem GS.Le.trans{a b c:GS}(h:GS.Le a b)(k:GS.Le b c):GS.Le a c:=
 ⟨h.ext.trans k.ext,λb S d=>k.up _ _ (h.up _ _ d),λx S C d=>h.old _ _ C (k.old _ _ (Nat.lt_of_lt_of_le C h.ext.size) d),λx C=>(k.tag x (Nat.lt_of_lt_of_le C h.ext.size)).trans (h.tag x C),λd=>k.ok (h.ok d)⟩
variable{s vq:GS}
theorem GS.Le.chg(h:GS.Le s vq):GS.Chg s vq:=⟨h.ext.size,h.up,λx Z T G C=>⟨Z,G,(h.ext.block (Bj C)).trans C,λ_ _=>rfl⟩⟩
theorem GS.Chg.refl(s:GS):GS.Chg s s:=(GS.Le.refl s).chg
theorem GS.Chg.trans{a b c:GS}(h:GS.Chg a b)(k:GS.Chg b c):GS.Chg a c:=
 ⟨Nat.le_trans h.size k.size,λx y d=>k.up _ _ (h.up _ _ d),λx Z T G C=>by
  obtain⟨R,P,u,A⟩:=h.cell x Z T G C;obtain⟨S,B,I,V⟩:=k.cell x R T P u;exact⟨S,B,I,λy N=>(V y (h.up _ _ N)).trans (A y N)⟩⟩
theorem GS.Le.heap(h:Ext s.w w)(a:w.heap=s.w.heap):GS.Le s { s with w:=w }:=
 ⟨h,λ_ _ h=>h,λ_ _ _ h=>h,λ_ _=>rfl,λd=>⟨λb k E=>by show b<w.heap.size;rw[a];exact d.lt b k E,λb k ⟨Z,G,E⟩=>d.safe b k ⟨Z,G,by rw[<-a];exact E⟩⟩⟩
def GS.grown(s:GS)(O:World):GS:=⟨λb k=>s.S b k\/(s.w.heap.size<=b/\b<O.heap.size),s.tag,O⟩
theorem Gk(h:Ext s.w w):GS.Le s (s.grown w):=
 ⟨h, fun _ _ h => .inl h, fun b k E d => d.elim id fun A => absurd E Zbx, fun _ _ => rfl, fun d => ⟨fun b k E => E.elim (fun A => Nat.lt_of_lt_of_le (d.lt b k A) h.size) fun A => A.2, fun b k ⟨Z, G, E⟩ => by
  rcases Nat.lt_or_ge b s.w.heap.size with u | u
  .exact .inl (d.safe b k ⟨Z,G,(h.block u).symm.trans E⟩)
  .exact .inr ⟨u,Bj E⟩⟩⟩
def GS.mk'(s:GS)(Z:Array Value)(T:TypeId)(i:Nat):GS:=⟨s.S,λb=>if b=s.w.heap.size then i else s.tag b,s.w.alloc (.cells Z T)⟩
theorem GS.le_mk'(s:GS)(Z:Array Value)(T:TypeId)(i:Nat)(g:T≠335):GS.Le s (s.mk' Z T i):=
 ⟨(Ext.refl _).alloc _, fun _ _ h => h, fun _ _ _ h => h, fun b E => by show (if b = s.w.heap.size then i else s.tag b) = _; rw [if_neg Zbx], fun d => ⟨fun b k E => Nat.lt_of_lt_of_le (d.lt b k E) (by show _ ≤ (s.w.alloc _).heap.size; simp), fun b k ⟨B, G, E⟩ => by
  replace E:(s.w.alloc (.cells Z T)).heap[b]? = some (.cells B 335 G):=E;rcases Nat.lt_or_ge b s.w.heap.size with u | u
  .exact d.safe b k ⟨B,G,(Below.heap_alloc s.w _ b u).symm.trans E⟩
  .exfalso
   have A:=Bj E;have I:b=s.w.heap.size:=by have V:(s.w.alloc (.cells Z T)).heap.size=s.w.heap.size+1:=Array.size_push ..;omega
   rw[I,heap_alloc_new]at E;cases E;exact g rfl⟩⟩
structure D where
 rel:GS->Value->Prop
 st:∀{s s':GS} {v:Value},rel s v->GS.Chg s s'->rel s' v
def ex(u:Value):D:=⟨λ_ v=>v=u,λh _=>h⟩
def Cw:D:=⟨λ_ _=>True,λh _=>h⟩
instance:Inhabited D:=⟨Cw⟩
def Df(R:List D)(k:Nat):D:=R.getD k Cw
def AL(ds:List D):D:=⟨λs v=>∃Z:Array Value,v=.agg Z/\Z.size=ds.length/\∀k,k<ds.length->∃u,Z[k]? = some u/\u.oneCell'=true/\(Df ds k).rel s u,
 λ⟨Z,A,B,I⟩ G=>⟨Z,A,B,λk C=>let⟨u,V,m,y⟩:=I k C;⟨u,V,m,(Df ds k).st y G⟩⟩⟩
def EX(R:List D):D:=⟨λs v=>∃Z:Array Value,v=.tuple Z/\Z.size=R.length/\∀k,k<R.length->∃u,Z[k]? = some u/\(Df R k).rel s u,
 λ⟨Z,A,B,I⟩ G=>⟨Z,A,B,λk C=>let⟨u,V,y⟩:=I k C;⟨u,V,(Df R k).st y G⟩⟩⟩
def Lies(s:GS)(b o:Nat)(T:TypeId)(R:List D):Prop:=
 ∃Z G,s.w.heap[b]? = some (.cells Z T G)/\∀k,k<R.length->s.S b (o+k)/\∃u,Z[o+k]? = some u/\u.oneCell'=true/\(Df R k).rel s u
theorem Lies.st{s s':GS}{ds:List D}(h:Lies s n b t ds)(G:GS.Chg s s'):Lies s' n b t ds:=by
 obtain⟨Z,F,A,B⟩:=h;obtain⟨K,L,I,V⟩:=G.cell n Z t F A;refine⟨K,L,I,λk C=>?_⟩;obtain⟨m,u,y,e,E⟩:=B k C;exact⟨G.up _ _ m,u,(V _ m).trans y,e,(Df ds k).st E G⟩
variable{c:List D}
theorem Lies.cell{b o:Nat}(h:Lies s b o t c){k:Nat}(C:k<c.length):∃u,s.w.cell? ⟨b,o+k,none⟩=some u/\u.oneCell'=true/\(Df c k).rel s u:=by
 obtain⟨Z,G,A,B⟩:=h;obtain⟨_,u,I,V⟩:=B k C;exact⟨u,(CH A).trans I,V⟩
theorem Ij(R:List D)(i k:Nat):Df (R.drop i) k=Df R (i+k):=by simp[Df,List.getElem?_drop]
theorem Lm{i k:Nat}(h:k<i):Df (c.take i) k=Df c k:=by simp[Df,List.getElem?_take,h]
theorem Lies.drop{b o:Nat}(h:Lies s b o t c)(i:Nat):Lies s b (o+i) t (c.drop i):=by
 obtain⟨Z,G,u,A⟩:=h;refine⟨Z,G,u,λk B=>?_⟩;rw[List.length_drop]at B;rw[Ij,Nat.add_assoc];exact A (i+k) Zbx
theorem Lies.take{b o:Nat}(h:Lies s b o t c)(i:Nat):Lies s b o t (c.take i):=by
 obtain⟨Z,G,u,A⟩:=h;refine⟨Z,G,u,λk B=>?_⟩;rw[List.length_take]at B;rw[Lm Zbx];exact A k Zbx
def Et(T:TypeId)(ds:List D):D:=⟨λs v=>∃b o,v=.pointer (some ⟨b,o,none⟩)/\Lies s b o T ds,λ⟨b,o,u,A⟩ G=>⟨b,o,u,A.st G⟩⟩
def slD(T:TypeId)(q:Nat)(P:List (List D)):D:=
 ⟨λs v=>∃(A:Option Addr) (c:Nat),v=.slice A P.length c/\P.length<=c/\c<=9223372036854775807 /\
  (0<P.length->∃b o,A=some ⟨b,o,none⟩/\(∀k,k<P.length->(P.getD k []).length=q/\Lies s b (o+k*q) T (P.getD k []))),
 λ⟨A,c,u,B,I,V⟩ G=>⟨A,c,u,B,I,λg=>let⟨b,o,m,y⟩:=V g;⟨b,o,m,λk C=>⟨(y k C).1,(y k C).2.st G⟩⟩⟩⟩
def D.le(x y:D):Prop:=∀s v,x.rel s v->y.rel s v
theorem D.le.refl(x:D):D.le x x:=λ_ _ h=>h
theorem Af{x y:D}(h:x=y):D.le x y:=h▸D.le.refl x
theorem slD.nil(T:TypeId)(q:Nat)(s:GS):(slD T q []).rel s (.slice none 0 0):=⟨none,0,rfl,by simp,by omega,λh=>absurd h ZbK⟩
theorem YH(P:List (List D))(i k:Nat):(P.drop i).getD k []=P.getD (i+k) []:=by simp[List.getElem?_drop]
variable{vp:List (List D)}
theorem YG(h:b<n):(vp.take n).getD b []=vp.getD b []:=by simp[List.getElem?_take,h]
section
namespace RegG
open Go.RowKit
def _root_.Go.Proofs.YtcikkglcoeedlaaGreat.GS.dr(s:GS):GS:={ s with w:=s.w.drew }
def OpStep(P:Program)(o:Oper)(ev:Operand->Value)(s:GS)(R:Value->GS->Prop):Prop:=
 match (execOp ev o).run P s.w with
 |.ok (.value v) O=>∃c:GS,c.w=O/\R v c
 |.ok .skip O=>∃c:GS,c.w=O/\R undef c
 |.ok (.enter f args) O=>Calls P f args O λe H=>∃v,e=.returned v/\∃c:GS,c.w=H/\R v c
 |_=>False
theorem opStep_wp{j:Operand->Value}{R:Value->GS->Prop}{K:Act->World->Prop}(A:Bz q.op=true)(B:∀y∈q.op.operands,vi.eval y=j y)
  (h:OpStep P q j s R) (p:∀v (H:GS),R v H->K (vi.put q.dst v) H.w):q.wp P vi s.w K vL:=by
 unfold Oper.wp
 have u:∀Z b,q.op≠.select Z b:=by
  intro Z b e;rw[e]at A;cases A
 rw[execOp_congr q u B];unfold OpStep at h;split at h
 .rename_i v H Y;rw[Y];obtain⟨c,rfl,h⟩:=h;exact p _ _ h
 .rename_i H Y;rw[Y];obtain⟨c,rfl,h⟩:=h;exact p _ _ h
 .rename_i f args H Y
  rw[Y];exact Calls.mono h λe o ⟨v,a,c,n,J⟩=>by subst a;subst n;exact p _ _ J
 .exact h.elim
abbrev Fact:=List Value->GS->Prop
def Known(u:List Shape)(G:List Fact)(i:Nat)(g:Nat->Value)(w:GS):Prop:=
 ∀x,u[i]? = some x->∀j∈x.bef,∀y F,u[j]? = some y->G[j]? = some F->F (y.deps.map g) w
def StepAt(P:Program)(y:List Shape)(G:List Fact)(a:Act)(T:GS)(i:Nat)(o:Oper)(x:Shape)(F:Fact):Prop:=
 ∀(g:Nat->Value) (w:GS) (j:Operand->Value),GS.Le T w->Known y G i g w->RC j g x.env ->
  (∀t,(∀p∈x.env,p.1≠t)->j (.tmp t)=a.tmps.getD t undef)->(∀v,j (.const v)=v)->(∀f,j (.func f)=.func (.func f) #[] #[]) ->
  (Ep o g=true->OpStep P o j w λv O=>GS.Le w O/\F (x.deps.map (upd g i v)) O)/\(Ep o g=false->F (x.deps.map (upd g i undef)) w)
def StepsAt(P:Program)(y:List Shape)(G:List Fact)(a:Act)(u:GS):Nat->List Oper->List Shape->List Fact->Prop
 |i,o::L,x::S,F::T=>StepAt P y G a u i o x F/\StepsAt P y G a u (i+1) L S T
 |_,_,[],[]=>True
 |_,_,_,_=>False
theorem StepsAt.at{P:Program}{y:List Shape}{M:List Fact}{a:Act}{K:GS}:∀{S:List Shape} {T:List Fact} {L:List Oper} {i:Nat},StepsAt P y M a K i L S T ->
  S.length=T.length/\∀k o x,L[k]? = some o->S[k]? = some x->∃F,T[k]? = some F/\StepAt P y M a K (i+k) o x F
 |[],[],L,i,_=>⟨rfl,λk o x _ C=>by simp at C⟩
 |[],_::_,L,i,h=>by cases L<;>exact h.elim
 |_::_,[],L,i,h=>by cases L<;>exact h.elim
 |x::S,F::T,[],i,h=>h.elim
 |x::S,F::T,o::L,i,h=>Zab
section
variable {P:Program} {L:List Oper} {sh:List Shape} {Rs:List Fact} {a:Act} {w0:GS}
structure HInv(L:List Oper)(sh:List Shape)(Rs:List Fact)(a:Act)(w0:GS)(listed:Array Bool)(g:Nat->Value)(a':Act)(w':GS):Prop where
 size:listed.size=L.length
 closed:∀j o,L[j]? = some o->listed.getD j false=true->∀e∈Bp o,listed.getD e false=true
 tail:∀t,sh.length<=t->listed.getD t false=false
 asz:a'.tmps.size=a.tmps.size
 adef:a'.defers=a.defers
 a1:∀j o d,j<sh.length->L[j]? = some o->listed.getD j false=true->o.dst=some d->a'.tmps[d]? = some (g j)
 a2:∀t,(∀j o,j<sh.length->L[j]? = some o->listed.getD j false=true->o.dst≠some t)->a'.tmps[t]? = a.tmps[t]?
 facts:∀j y F,sh[j]? = some y->Rs[j]? = some F->listed.getD j false=true->F (y.deps.map g) w'
 ext:GS.Le w0 w'
theorem step_inv(T:Dp L sh=true)(W:Gd L sh.length a.tmps.size=true)
  (xb:∀F∈Rs,∀R V Z,GS.Le V Z->F R V->F R Z)
 {g:Nat->Value} (S:HInv L sh Rs a w0 vH g vi s) {i:Nat} {F:Fact} (n:L[i]? = some q) (C:sh[i]? = some un) (hF:Rs[i]? = some F)
  (m:vH.getD i false=false) (l:∀e∈Bp q,vH.getD e false=true) (I:GS.Le s vq) (p:F (un.deps.map (upd g i z)) vq) :
  HInv L sh Rs a w0 (vH.setIfInBounds i true) (upd g i z) (vi.put q.dst z) vq:=by
 have xa:i<sh.length:=DR C;have x:i<vH.size:=by rw[S.size];exact(List.getElem?_eq_some_iff.1 n).1
 have U:∀j,(vH.setIfInBounds i true).getD j false=true->j≠i->vH.getD j false=true:=λj h Q=>by
  rw[getD_set_ne false (λe=>Q e.symm)]at h;exact h
 have xg:∀j y f,sh[j]? = some y->L[j]? = some f->vH.getD j false=true->i∉y.bef:=λj y f N c E K=>by
  have:=Dw T S.closed j y f N c (S.closed j f c E) i K;rw[m]at this;cases this
 refine⟨by simp[S.size],λj f c E e H=>?_,λt M=>?_,?_,?_,λj f d Q c E J=>?_,λt M=>?_,λj y G N r E=>?_,S.ext.trans I⟩
 .by_cases o:j=i
  .subst o
   have:f=q:=Option.some.inj (c.symm.trans n);subst this;exact getD_set_true (l e H)
  .exact getD_set_true (S.closed j f c (U j E o) e H)
 .rw [getD_set_ne false Zbx];exact S.tail t M
 .unfold Act.put;split<;>simp[S.asz]
 .unfold Act.put;split<;>simp[S.adef]
 .by_cases o:j=i
  .subst o
   have:f=q:=Option.some.inj (c.symm.trans n);subst this
   have xd:d<vi.tmps.size:=by
    rw[S.asz];have A:=List.all_eq_true.1 W f (List.mem_of_getElem? (i:=j) (by rw[List.getElem?_take];simp[xa,c]));simp only[J,decide_eq_true_eq]at A;exact A
   simp[Act.put,J,upd,xd]
  .have xc:=U j E o
   have Y:q.dst≠some d:=λe=>o (Fb T Q xa c n J e);rw[show upd g i z j=g j by simp[upd,o],<-S.a1 j f d Q c xc J];unfold Act.put;split
   .rename_i X b
    have:X≠d:=λe=>Y (by rw[b,e]);simp[Array.getElem?_setIfInBounds_ne this]
   .rfl
 .have A:q.dst≠some t:=by
   refine M i q xa n ?_;simp[x]
  rw[<-S.a2 t λj f Q c E=>M j f Q c (getD_set_true E)];unfold Act.put;split
  .rename_i X b
   have:X≠t:=λe=>A (by rw[b,e]);simp[Array.getElem?_setIfInBounds_ne this]
  .rfl
 .by_cases o:j=i
  .subst o
   have O:y=un:=Option.some.inj (N.symm.trans C);have v:G=F:=Option.some.inj (r.symm.trans hF);subst O;subst v;exact p
  .have xc:=U j E o
   have w:j<L.length:=Nat.lt_of_lt_of_le (DR N) (CW T);have c:L[j]? = some L[j]:=List.getElem?_eq_getElem w;have xh:=xg j y _ N c xc
   have xe:y.deps.map (upd g i z)=y.deps.map g:=by
    refine List.map_congr_left λk B=>?_;have u:=(Cn T c).2.1 y N;simp only[En,Bool.and_eq_true]at u;have A:=List.all_eq_true.1 u.1.1.1.1.2 k B;simp only[Bool.or_eq_true,beq_iff_eq]at A
    have xf:k≠i:=by
     rintro rfl;rcases A with A | A
     .exact o A.symm
     .exact xh Zec
    simp[upd,xf]
   rw[xe];exact xb G (List.mem_of_getElem? r) _ _ _ I (S.facts j y G N r xc)
theorem eval_operands(T:Dp L sh=true){g:Nat->Value}(K:HInv L sh Rs a w0 vH g vi s)(E:L[n]? = some q)(C:sh[n]? = some un)
  (l:vH.getD n false=false) (R:∀e∈Bp q,vH.getD e false=true):∀y∈q.op.operands,vi.eval y=Nu a g un.env y:=Zac
theorem wanted_of(T:Dp L sh=true){g:Nat->Value}(K:HInv L sh Rs a w0 vH g vi s)(E:L[n]? = some q)(C:sh[n]? = some un)
  (N:∀e∈Bp q,vH.getD e false=true):Region.wanted q (yielded L.toArray vi.tmps)=Ep q g:=Zad
theorem head_run(T:Dp L sh=true)(W:Gd L sh.length a.tmps.size=true)
  (xA:∀F∈Rs,∀H w1 w2,GS.Le w1 w2->F H w1->F H w2) (xj:StepsAt P sh Rs a w0 0 L sh Rs)
  (xw:∀g O,GS.Le w0 O->(∀(j:Nat) (y:Shape) (F:Fact),sh[j]? = some y->Rs[j]? = some F->F (y.deps.map g) O)->wpList P L.toArray vL (L.drop sh.length) (EM g (L.take sh.length) 0 a) O.w) :
  ∀(f:Nat) (U:Array Bool) (g:Nat->Value) (a':Act) (O:GS),HM U=f->HInv L sh Rs a w0 U g a' O->wpAny P .any L.toArray vL f U a' O.w:=by
 obtain⟨xb,xt⟩:=xj.at;intro f
 induction f with
 |zero=>
  intro U g a' O r xa
  have xh:∀j,j<L.length->U.getD j false=true:=λj Z=>Zae
  refine KX T 0 L.length U a' O.w (CW T) Zbx xa.size xh (λj Z=>by simp[xa.size,Z]) ?_
  exact Zaf
 |succ f ih=>
  intro U g a' O r xa;by_cases xl:∀j,j<sh.length->U.getD j false=true
  .have xK:f+1+sh.length=L.length:=Zag
   refine KX T (f+1) sh.length U a' O.w (Nat.le_refl _) xK xa.size xl xa.tail ?_;have:=xw g O xa.ext λj y F N hF=>xa.facts j y F N hF (xl j (DR N))
   have xG:EM g (L.take sh.length) 0 a=a':=Zah
   rw[xG]at this;exact this
  .have xH:∃j,j<sh.length/\U.getD j false=false:=Classical.byContradiction λxp=>xl λj Z=>Zai
   obtain⟨j0,xL,xr⟩:=xH;refine⟨λX=>?_,λi K=>?_⟩
   .obtain ⟨k,_,B⟩:=Jo T xa.size j0 (Nat.lt_of_lt_of_le xL (CW T)) xr
    rw[X]at B;cases B
   .obtain ⟨xf,o,m,xe⟩:=KZ T xa.size K
    have xs:i<sh.length:=Zaj
    have C:sh[i]? = some sh[i]:=List.getElem?_eq_getElem xs;obtain⟨F,hF,w⟩:=xt i o _ m C;rw[Nat.zero_add]at w;have xn:i<U.size:=ZgR
    have xp:=(Cn T m).2.1 _ C;simp only[En,Bool.and_eq_true]at xp
    obtain⟨xq,xu⟩:=w g O (Nu a g sh[i].env) xa.ext (λx xv j Z y G N hG=>by
      have:x=sh[i]:=Option.some.inj (xv.symm.trans C);subst this;exact xa.facts j y G N hG (Dw T xa.closed i _ o C m xe j Z))
     (Pi λp I=>by
      obtain⟨u,A,c,xc,xd⟩:=Gb T C m I
      cases xi:sh[i].env.find? (λq=>q.1==p.1)with
      |none=>have:=List.find?_eq_none.1 xi p I;simp at this
      |some q=>
       have z:=List.mem_of_find?_eq_some xi;have xM:q.1=p.1:=by simpa using List.find?_some xi
       obtain⟨_,V,o2,xx,xo⟩:=Gb T C m z;rw[xM]at xo;have:=Fb T V A xx xc xo xd;simp only[Nu,xi,this])
     (λt M=>by
      have:sh[i].env.find? (λq=>q.1==t)=none:=List.find?_eq_none.2 λp I=>by simpa using M p I
      simp only[Nu,this])
     (λ_=>rfl) (λ_=>rfl)
    have xN:=wanted_of T xa m C xe
    have xI:∀v w2 b,(a'.put o.dst v)=b->GS.Le O w2->F (sh[i].deps.map (upd g i v)) w2->wpAny P .any L.toArray vL f (U.setIfInBounds i true) b w2.w:=λv w2 b E R xy=>by
     subst E;refine ih _ (upd g i v) _ _ ?_ (step_inv T W xA xa m C hF xf xe R xy);have:=KE xn xf;omega
    unfold wpOp;have xx:L.toArray[i]? = some o:=by simpa using m
    rw[xx];show if Region.wanted o (yielded L.toArray a'.tmps)=true then _ else _
    rw[xN];split
    .rename_i hw
     exact Zha
    .rename_i hw
     exact xI undef O _ rfl (GS.Le.refl _) (xu (by simpa using hw))
theorem wp_region_ext{L:List Oper}{a:Act}(u:wpAny P .any L.toArray vL L.toArray.size (Array.replicate L.toArray.size false) a s.dr.w->vB)(sh:List Shape)(Rs:List Fact)(T:Dp L sh=true)(W:Gd L sh.length a.tmps.size=true)
  (I:∀F∈Rs,∀B C E,GS.Le C E->F B C->F B E) (Q:StepsAt P sh Rs a s.dr 0 L sh Rs)
  (n:∀g O,GS.Le s.dr O->(∀(j:Nat) (y:Shape) (F:Fact),sh[j]? = some y->Rs[j]? = some F->F (y.deps.map g) O)->wpList P L.toArray vL (L.drop sh.length) (EM g (L.take sh.length) 0 a) O.w) :
  vB:=by
 refine u ?_;have G:HM (Array.replicate L.toArray.size false)=L.toArray.size:=by simp[HM,List.filter_replicate]
 refine head_run T W I Q n _ _ (λ_=>undef) a s.dr G ?_
 have A:∀j,(Array.replicate L.toArray.size false).getD j false=false:=λj=>Zak
 exact⟨by simp,(λj o _ h=>by rw[A]at h;cases h),λt _=>A t,rfl,rfl,(λj o d _ _ h=>by rw[A]at h;cases h),λt _=>rfl,(λj y F _ _ h=>by rw[A]at h;cases h),GS.Le.refl _⟩
end
abbrev VFact:=Value->GS->Prop
def OpsKnown(n:List VFact)(u:Operand->Value)(w:GS):List (Nat×Nat)->Prop
 |[]=>True
 |(t,j)::r=>(∀F,n[j]? = some F->F (u (.tmp t)) w)/\OpsKnown n u w r
def UStep(P:Program)(n:List VFact)(a:Act)(T:GS)(o:Oper)(env:List (Nat×Nat))(F:VFact):Prop:=
 ∀(w:GS) (u:Operand->Value),GS.Le T w->OpsKnown n u w env ->
  (∀t,(∀p∈env,p.1≠t)->u (.tmp t)=a.tmps.getD t undef)->(∀v,u (.const v)=v)->(∀f,u (.func f)=.func (.func f) #[] #[]) ->
  match o.guard with
  |none=>OpStep P o u w λv O=>GS.Le w O/\F v O
  |some (j,b)=>∀i,(∀G,n[j]? = some G->G i w)->(i=.bool b->OpStep P o u w λv O=>GS.Le w O/\F v O)/\(i≠.bool b->F undef w)
def USteps(P:Program)(n:List VFact)(a:Act)(u:GS):List Oper->List (List (Nat×Nat))->List VFact->Prop
 |o::L,x::S,F::T=>UStep P n a u o x F/\USteps P n a u L S T
 |_,[],[]=>True
 |_,_,_=>False
def unF(F:VFact):Fact:=λu w=>match u with | [v]=>F v w | _=>False
theorem usteps_steps{P:Program}{a:Act}{w0:GS}{Fs:List VFact}{sh:List Shape}{L0:List Oper}(d:Dp L0 sh=true)(xq:∀(k:Nat) (x:Shape),sh[k]? = some x->x.deps=[k]) :
  ∀{L:List Oper} {l:List (List (Nat×Nat))} {bs:List (List Nat)} {T:List VFact} {i:Nat},(∀k,L[k]? = L0[i+k]?)->(∀k,(EO i l bs)[k]? = sh[i+k]?)->l.length=bs.length->USteps P Fs a w0 L l T ->
   StepsAt P sh (Fs.map unF) a w0 i L (EO i l bs) (T.map unF)
 |L,[],[],[],i,_,_,_,_=>by cases L<;>exact trivial
 |L,[],[],_::_,i,_,_,_,h=>by cases L<;>exact h.elim
 |L,[],_::_,T,i,_,_,N,h=>by simp at N
 |L,_::_,[],T,i,_,_,N,h=>by simp at N
 |[],_::_,_::_,T,i,_,_,_,h=>by cases T<;>exact h.elim
 |_::_,_::_,_::_,[],i,_,_,_,h=>h.elim
 |o::L,e::l,b::bs,F::T,i,U,z,N,h=>Zal
theorem wp_region_u{L:List Oper}(A:wpAny P .any L.toArray vL L.toArray.size (Array.replicate L.toArray.size false) vi s.dr.w->vB)(l:List (List (Nat×Nat)))(K:List (List Nat))(M:List VFact)
  (o:(l.length==K.length&&l.length==M.length)=true) (T:Dp L (EO 0 l K)=true) (W:Gd L l.length vi.tmps.size=true)
  (V:∀F∈M,∀v E I,GS.Le E I->F v E->F v I) (Q:USteps P M vi s.dr L l M)
  (S:∀(g:Nat->Value) (O:GS),GS.Le s.dr O->(∀(j:Nat) (F:VFact),M[j]? = some F->F (g j) O)->wpList P L.toArray vL (L.drop l.length) (EM g (L.take l.length) 0 vi) O.w) :
  vB:=by
 simp only[Bool.and_eq_true,beq_iff_eq]at o
 have Y:∀(l:List (List (Nat×Nat))) (K:List (List Nat)) (i:Nat),l.length=K.length->(EO i l K).length=l.length:=by
  intro l
  induction l with
  |nil=>intro K i _;cases K<;>rfl
  |cons e l n=>
   intro K i h
   cases K with
   |nil=>simp at h
   |cons b K=>simp[EO,n K (i+1) ZcK]
 have u:=Y l K 0 o.1;refine wp_region_ext A (EO 0 l K) (M.map unF) T (by rw[u];exact W) ?_ ?_ ?_
 .intro F hF B E I a h
  obtain⟨G,y,rfl⟩:=List.mem_map.1 hF;unfold unF at *;split at h
  .rename_i v;exact V G y v E I a h
  .exact h.elim
 .exact Zhb
 .exact Zam
def Stab(F:VFact):Prop:=∀v a C,GS.Le a C->F v a->F v C
def StabAll:List VFact->Prop
 |[]=>True
 |F::r=>Stab F/\StabAll r
theorem StabAll.mem:∀{n:List VFact},StabAll n->∀F∈n,Stab F
 |[],_,F,h=>by cases h
 |G::r,h,F,hF=>Zan
theorem wp_region_v{L:List Oper}{w:GS}(s:wpAny P .any L.toArray vL L.toArray.size (Array.replicate L.toArray.size false) vi w.dr.w->vB)(l:List (List (Nat×Nat)))(u:List (List Nat))(n:List VFact)
  (o:(l.length==u.length&&l.length==n.length)=true) (T:Dp L (EO 0 l u)=true) (W:Gd L l.length vi.tmps.size=true) (stab:StabAll n) (steps:USteps P n vi w.dr L l n)
  (fin:∀(g:Nat->Value) (O:GS),GS.Le w.dr O->(∀(j:Nat) (F:VFact),n[j]? = some F->F (g j) O)->wpList P L.toArray vL (L.drop l.length) (EM g (L.take l.length) 0 vi) O.w) :
  vB:=
 wp_region_u s l u n o T W (λF hF=>stab.mem F hF) steps fin
end RegG
theorem Iq(s:GS):GS.Le s s.dr:=GS.Le.heap ((Ext.refl _).drew) rfl
structure OD where
 rel:GS->Value->Prop
 blk:GS->Value->Nat->Prop
 lt:∀{s:GS} {v:Value} {b:Nat},rel s v->blk s v b->b<s.w.heap.size
 keep:∀{s s':GS} {v:Value},rel s v->GS.Chg s s'->(∀b,blk s v b->s'.w.heap[b]? = s.w.heap[b]? /\ ∀k,s'.S b k↔s.S b k)->rel s' v/\∀b,blk s' v b->blk s v b
inductive AV
 |d (x:D)
 |ptr (id off:Nat)
 |own (id:Nat)
 |fn (f:FuncId) (caps:List Nat)
instance:Inhabited AV:=⟨.d Cw⟩
inductive Ow
 |dead
 |var (T:TypeId) (cells:List AV)
 |row (T:TypeId) (sz:Nat) (rows:List (List D))
 |obj (O:OD)
 |pin (l:List (Value×AV))
instance:Inhabited Ow:=⟨.dead⟩
structure AS where
 fr:List (Nat×AV)
 hp:List Ow
def BR:List (Nat×AV)->Nat->Option AV
 |[],_=>none
 |(a,v)::r,t=>bif Nat.beq a t then some v else BR r t
theorem Ed:∀{l:List (Nat×AV)} {t:Nat} {H:AV},BR l t=some H->(t,H)∈l
 |[],_,_,h=>by cases h
 |(a,v)::r,t,H,h=>by
  unfold BR at h
  cases E:Nat.beq a t with
  |true=>
   rw[E]at h;have d:a=t:=Nat.eq_of_beq_eq_true E;have u:v=H:=Option.some.inj h;subst d;subst u;exact List.mem_cons_self
  |false=>
   rw[E]at h;exact List.mem_cons_of_mem _ (Ed h)
def Dc:Value->Option Nat
 |.pointer (some a)=>some a.block
 |.slice (some a) _ _=>some a.block
 |_=>none
def fnV(f:FuncId)(F:List Value):Value:=bif Nat.blt f 1000000 then .func (.func f) #[] F.toArray else .func (.func (f-1000000)) F.toArray #[]
def AVr(m:Nat)(S:Nat->Value)(s:GS):AV->Value->Prop
 |.d x,v=>x.rel s v
 |.ptr id off,v=>id<m/\∃b,S id=.pointer (some ⟨b,0,none⟩)/\v=.pointer (some ⟨b,off,none⟩)
 |.own id,v=>id<m/\v=S id
 |.fn f M,v=>(∀i∈M,i<m)/\v=fnV f (M.map S)
variable{g:AV}
theorem AVr.chg{m:Nat}{ρ:Nat->Value}{s s':GS}{v:Value}(h:AVr m ρ s g v)(G:GS.Chg s s'):AVr m ρ s' g v:=by
 cases g with
 |d x=>exact x.st h G
 |ptr id off=>exact h
 |own id=>exact h
 |fn f M=>exact h
theorem AVr.mono{m O:Nat}{v:Value}(h:AVr m vg s g v)(B:m<=O)(C:∀i,i<m->vZ i=vg i):AVr O vZ s g v:=by
 cases g with
 |d x=>exact h
 |ptr id off=>
  obtain⟨u,b,A,I⟩:=h;exact⟨Nat.lt_of_lt_of_le u B,b,(C id u).trans A,I⟩
 |own id=>exact⟨Nat.lt_of_lt_of_le h.1 B,h.2.trans (C id h.1).symm⟩
 |fn f M=>exact⟨λi K=>Nat.lt_of_lt_of_le (h.1 i K) B,by rw[h.2,List.map_congr_left λi K=>(C i (h.1 i K)).symm]⟩
def OwR(base m:Nat)(S:Nat->Value)(s:GS)(i:Nat):Ow->Prop
 |.dead=>True
 |.var T cells=>∃(b:Nat) (Z:Array Value),S i=.pointer (some ⟨b,0,none⟩)/\base<=b/\s.w.heap[b]? = some (.cells Z T (0,0))/\Z.size=cells.length/\T≠335/\(∀k,¬s.S b k)/\∀(k:Nat) av,cells[k]? = some av->∃u:Value,Z[k]? = some u/\u.oneCell'=true/\AVr m S s av u
 |.row T q P=>∃f:List Value,s.w.ownsRow base T q (S i) P.length f/\T≠335/\0<q/\(∀b,Dc (S i)=some b->∀k,s.S b k↔k<P.length*q)/\∀k,k<P.length->(P.getD k []).length=q/\∀j,j<q->∃u,f[k*q+j]? = some u/\u.oneCell'=true/\(Df (P.getD k []) j).rel s u
 |.obj O=>O.rel s (S i)
 |.pin l=>∀p∈l,AVr m S s p.2 p.1
def OwB(s:GS)(v:Value):Ow->Nat->Prop
 |.dead,_=>False
 |.var _ _,b=>Dc v=some b
 |.row _ _ _,b=>Dc v=some b
 |.obj O,b=>O.blk s v b
 |.pin _,_=>False
variable{vr:Ow}
theorem OwR.blk_lt0{base m:Nat}{i:Nat}(h:OwR base m vg s i vr){b:Nat}(E:OwB s (vg i) vr b):b<s.w.heap.size:=by
 cases vr with
 |dead=>exact E.elim
 |pin l=>exact E.elim
 |obj O=>exact O.lt h E
 |var T cells=>
  obtain⟨g,Z,u,A,I,_⟩:=h;replace E:Dc (vg i)=some b:=E;rw[u]at E;cases E;exact Bj I
 |row T q P=>
  obtain⟨f,⟨u,A⟩,_⟩:=h;replace E:Dc (vg i)=some b:=E;rcases A with⟨d,_⟩ | ⟨g,cap,cur,d,e2,e3,_⟩
  .rw [d]at E;cases E
  .rw [d]at E;cases E;exact Bj e3
theorem OwB.keep(h:OwR n b vg s T vr)(G:GS.Chg s vq)(E:∀m,OwB s (vg T) vr m->vq.w.heap[m]? = s.w.heap[m]? /\ ∀k,vq.S m k↔s.S m k)(C:OwB vq (vg T) vr m):OwB s (vg T) vr m:=by
 cases vr with
 |obj O=>exact(O.keep h G E).2 m C
 |_=>exact C
theorem OwB.le{base m:Nat}{ρ:Nat->Value}{s s':GS}{i:Nat}{o:Ow}(h:OwR base m ρ s i o)(L:GS.Le s s'){b:Nat}(C:OwB s' (ρ i) o b):OwB s (ρ i) o b:=
 OwB.keep h L.chg (λc G=>have Q:=h.blk_lt0 G;⟨L.ext.block Q,λk=>⟨L.old c k Q,L.up c k⟩⟩) C
theorem OwR.le{base m:Nat}{ρ:Nat->Value}{s s':GS}{i:Nat}{o:Ow}(h:OwR base m ρ s i o)(L:GS.Le s s'):OwR base m ρ s' i o:=by
 cases o with
 |dead=>trivial
 |var T cells=>
  obtain⟨b,Z,A,B,I,V,M,y,e⟩:=h;refine⟨b,Z,A,B,(L.ext.block (Bj I)).trans I,V,M,λk C=>y k (L.old b k (Bj I) C),λk H C=>?_⟩;obtain⟨u,N,S,R⟩:=e k H C;exact⟨u,N,S,R.chg L.chg⟩
 |row T q P=>
  obtain⟨f,⟨A,B⟩,I,V,M,y⟩:=h;refine⟨f,⟨A,?_⟩,I,V,λb E k=>?_,λk C=>⟨(y k C).1,λj K=>?_⟩⟩
  .rcases B with B | ⟨g,cap,cur,d,e2,e3,e4⟩
   .exact .inl B
   .exact .inr ⟨g,cap,cur,d,e2,(L.ext.block (Bj e3)).trans e3,e4⟩
  .have Q:b<s.w.heap.size:=by
    rcases B with⟨d,_⟩ | ⟨g,cap,cur,d,e2,e3,e4⟩
    .rw [d]at E;cases E
    .rw [d]at E;cases E;exact Bj e3
   exact⟨λC=>(M b E k).1 (L.old b k Q C),λC=>L.up b k ((M b E k).2 C)⟩
  .obtain ⟨u,N,S,R⟩:=(y k C).2 j K
   exact⟨u,N,S,(Df _ j).st R L.chg⟩
 |obj O=>exact(O.keep h L.chg λc G=>have Q:=O.lt h G;⟨L.ext.block Q,λk=>⟨L.old c k Q,L.up c k⟩⟩).1
 |pin l=>exact λp F=>(h p F).chg L.chg
def HpOk(base:Nat)(S:Nat->Value)(s:GS)(F:List Ow):Prop:=∀i o,F[i]? = some o->OwR base F.length S s i o
theorem HpOk.le{ρ:Nat->Value}{s s':GS}{hp:List Ow}(h:HpOk n ρ s hp)(L:GS.Le s s'):HpOk n ρ s' hp:=λi o K=>(h i o K).le L
def II(hp:List Ow):AV->Option D
 |.d x=>some x
 |.own id=>match hp[id]? with
  |some (.row T q P)=>some (slD T q P)
  |_=>none
 |.ptr _ _=>none
 |.fn _ _=>none
variable{r:D}
theorem Ev{base:Nat}{ρ:Nat->Value}{hp:List Ow}{av:AV}{v:Value}(N:HpOk base ρ s hp)(h:AVr hp.length ρ s av v)(E:II hp av=some r):r.rel s v:=by
 cases av with
 |d y=>cases E;exact h
 |ptr id off=>cases E
 |fn f R=>cases E
 |own id=>
  obtain rfl:v=ρ id:=h.2
  replace E:(match hp[id]? with
   |some (.row T q P)=>some (slD T q P)
   |_=>none)=some r:=E
  split at E
  .rename_i T q P a
   cases E;obtain⟨M,⟨A,B⟩,I,V,m,L⟩:=N id _ a;rcases B with⟨F,K⟩ | ⟨g,cap,cur,F,K,e3,e4,e5,e6,e7⟩
   .rw [F]
    exact⟨none,0,by rw[K],by omega,by omega,λG=>by omega⟩
   .rw [F]
    refine⟨_,cap,rfl,e4,by simpa[maxLen]using e5,λG=>⟨g,0,rfl,λk C=>⟨(L k C).1,cur,(0,0),e3,λj i=>?_⟩⟩⟩;rw[(L k C).1]at i;obtain⟨u,O,Z,S⟩:=(L k C).2 j i
    have Q:k*q+j<P.length*q:=by
     have:(k+1)*q<=P.length*q:=Nat.mul_le_mul_right q C;exact ZfN
    refine⟨by rw[Nat.zero_add];exact(m g (by rw[F];rfl) _).2 Q,u,?_,Z,S⟩;rw[Nat.zero_add,<-O,<-e7,List.getElem?_take,if_pos Q];simp
  .cases E
def AS.arg(σ:AS):Operand->AV
 |.tmp t=>(BR σ.fr t).getD (.d Cw)
 |.const v=>.d (ex v)
 |.global g=>.d (ex (.pointer (some ⟨g,0,none⟩)))
 |.func f=>.d (ex (.func (.func f) #[] #[]))
def AS.put(σ:AS)(dst:Option Tmp)(r:AV):AS:=
 match dst with
 |some d=>{ σ with fr:=(d,r)::σ.fr }
 |none=>σ
structure GS.LeX(mine:Nat->Prop)(s s':GS):Prop where
 os:s'.w.os=s.w.os
 tape:s'.w.tape=s.w.tape
 output:s'.w.output=s.w.output
 block:∀k,k<s.w.heap.size->¬mine k->s'.w.heap[k]? = s.w.heap[k]?
 chg:GS.Chg s s'
 old:∀b k,b<s.w.heap.size->¬mine b->s'.S b k->s.S b k
 tag:∀b,b<s.w.heap.size->s'.tag b=s.tag b
 ok:s.Ok->s'.Ok
theorem GS.LeX.size{mine:Nat->Prop}{s s':GS}(h:GS.LeX mine s s'):s.w.heap.size<=s'.w.heap.size:=h.chg.size
theorem GS.LeX.refl(V:Nat->Prop)(s:GS):GS.LeX V s s:=⟨rfl,rfl,rfl,λ_ _ _=>rfl,GS.Chg.refl s,λ_ _ _ _ h=>h,λ_ _=>rfl,λh=>h⟩
theorem GS.LeX.trans{mine:Nat->Prop}{a b c:GS}(h:GS.LeX mine a b)(k:GS.Le b c):GS.LeX mine a c:=
 ⟨k.ext.os.trans h.os,k.ext.tape.trans h.tape,k.ext.output.trans h.output,λx C s=>(k.ext.block (Nat.lt_of_lt_of_le C h.size)).trans (h.block x C s),h.chg.trans k.chg,λx j C s d=>h.old x j C s (k.old x j (Nat.lt_of_lt_of_le C h.size) d),λx C=>(k.tag x (Nat.lt_of_lt_of_le C h.size)).trans (h.tag x C),λd=>k.ok (h.ok d)⟩
theorem GS.LeX.le{s s':GS}{mine:Nat->Prop}(u:∀b,¬mine b)(h:GS.LeX mine s s'):GS.Le s s':=
 ⟨⟨h.os,h.tape,h.output,h.size,λk B=>h.block k B (u k)⟩,h.chg.up,λb k E=>h.old b k E (u b),h.tag,h.ok⟩
structure An where
 g:GS
 mine:Nat->Prop
 df:List Deferred
theorem GS.LeX.turn{s0:An}{s s':GS}(h:GS.LeX s0.mine s0.g s){g:Nat}(K:s0.mine g\/s0.g.w.heap.size<=g)(u:s'.w.os=s.w.os)(A:s'.w.tape=s.w.tape)(I:s'.w.output=s.w.output)(V:∀b,b<s.w.heap.size->b≠g->s'.w.heap[b]? = s.w.heap[b]? /\ ∀k,s'.S b k->s.S b k)(G:GS.Chg s s')(M:∀b,b<s.w.heap.size->s'.tag b=s.tag b)(T:s.Ok->s'.Ok):GS.LeX s0.mine s0.g s':=
 ⟨u.trans h.os,A.trans h.tape,I.trans h.output,λk B F=>(V k (Nat.lt_of_lt_of_le B h.size) λe=>by subst e;exact K.elim F (λd=>absurd B Zbx)).1.trans (h.block k B F),h.chg.trans G,λb k E F C=>h.old b k E F ((V b (Nat.lt_of_lt_of_le E h.size) λe=>by subst e;exact K.elim F (λd=>absurd E Zbx)).2 k C),λb E=>(M b (Nat.lt_of_lt_of_le E h.size)).trans (h.tag b E),λd=>T (h.ok d)⟩
structure StI(s0:An)(n:Nat)(σ:AS)(a:Act)(s:GS)(ρ:Nat->Value):Prop where
 le:GS.LeX s0.mine s0.g s
 ok:s.Ok
 fr:∀t av,BR σ.fr t=some av->AVr σ.hp.length ρ s av (a.tmps.getD t undef)
 sz:a.tmps.size=n
 df:a.defers=s0.df
 hp:HpOk 0 ρ s σ.hp
 sep:∀i j o o',i≠j->σ.hp[i]? = some o->σ.hp[j]? = some o'->∀b,OwB s (ρ i) o b->¬OwB s (ρ j) o' b
 own:∀i o b,σ.hp[i]? = some o->OwB s (ρ i) o b->s0.mine b\/s0.g.w.heap.size<=b
def St(s0:An)(n:Nat)(f:AS)(a:Act)(w:World):Prop:=∃(s:GS) (S:Nat->Value),s.w=w/\StI s0 n f a s S
theorem StI.arg{s0:An}{σ:AS}(h:StI s0 n σ vi s vg)(x:Operand):AVr σ.hp.length vg s (σ.arg x) (vi.eval x):=by
 cases x with
 |tmp t=>
  show AVr σ.hp.length vg s ((BR σ.fr t).getD (.d Cw)) (vi.tmps.getD t undef)
  cases L:BR σ.fr t with
  |none=>exact trivial
  |some H=>exact h.fr t H L
 |const v=>exact rfl
 |global g=>exact rfl
 |func f=>exact rfl
theorem Cx(t u:Nat)(H:AV)(l:List (Nat×AV)):BR ((t,H)::l) u=if t=u then some H else BR l u:=by
 show(bif Nat.beq t u then some H else BR l u)=_
 cases E:Nat.beq t u with
 |true=>rw[if_pos (Nat.eq_of_beq_eq_true E)];rfl
 |false=>rw[if_neg (Nat.ne_of_beq_eq_false E)];rfl
theorem StI.put{s0:An}{σ:AS}{a:Act}{s s':GS}(h:StI s0 n σ a s vg)(L:GS.Le s s'){dst:Option Tmp}(W:∀d,dst=some d->d<n){v:Value}{r:AV}(Y:AVr σ.hp.length vg s' r v):StI s0 n (σ.put dst r) (a.put dst v) s' vg:=by
 refine⟨h.le.trans L,L.ok h.ok,λt H M=>?_,?_,?_,?_,?_,?_⟩
 .cases dst with
  |none=>exact(h.fr t H M).chg L.chg
  |some d=>
   simp only[AS.put,Cx]at M;simp only[Act.put];by_cases C:d=t
   .rw [if_pos C]at M
    cases M;subst C;have:d<a.tmps.size:=by rw[h.sz];exact W d rfl
    simp[this];exact Y
   .rw [if_neg C]at M
    have:=(h.fr t H M).chg L.chg;rw[Array.getD_eq_getD_getElem?]at this ⊢;rwa [Array.getElem?_setIfInBounds_ne C]
 .unfold Act.put;split<;>simp[h.sz]
 .unfold Act.put;split<;>simp[h.df]
 .cases dst<;>exact h.hp.le L
 .have key:∀i j o k,i≠j->σ.hp[i]? = some o->σ.hp[j]? = some k->∀b,OwB s' (vg i) o b->¬OwB s' (vg j) k b:=λi j o k B K u b E A=>h.sep i j o k B K u b (OwB.le (h.hp i o K) L E) (OwB.le (h.hp j k u) L A)
  cases dst<;>exact key
 .have key:∀i o b,σ.hp[i]? = some o->OwB s' (vg i) o b->s0.mine b\/s0.g.w.heap.size<=b:=λi o b K E=>h.own i o b K (OwB.le (h.hp i o K) L E)
  cases dst<;>exact key
structure Quiet(P:Program)(hp:List Ow)(o:Oper)(arg:Operand->AV)(r:AV):Prop where
 run:∀(base:Nat) (s:GS) (ρ:Nat->Value) (ev:Operand->Value),s.Ok->base<=s.w.heap.size->HpOk base ρ s hp->(∀x,x∈o.op.operands->AVr hp.length ρ s (arg x) (ev x)) ->
  RegG.OpStep P o ev s λv s'=>GS.Le s s'/\AVr hp.length ρ s' r v
theorem BL{o:Oper}{ev:Operand->Value}{R:Value->GS->Prop}{v:Value}(h:(execOp ev o).run P s.w=.ok (.value v) s.w)(J:R v s):RegG.OpStep P o ev s R:=by
 unfold RegG.OpStep;rw[h];exact⟨s,rfl,J⟩
theorem JK{ev:Operand->Value}{R:Value->GS->Prop}{v:Value}(h:(execOp ev q).run P s.w=.ok (.value v) w)(s':GS)(V:s'.w=w)(J:R v s'):RegG.OpStep P q ev s R:=by
 unfold RegG.OpStep;rw[h];exact⟨s',V,J⟩
structure Tab(P:Program)(t:TypeId)(d:TypeDesc)(n bytes:Nat)(z:Value):Prop where
 und:P.underlying t=some d
 inf:(P.info? t).map (λi=>(i.zero,i.size,i.bytes))=some (some z,n,bytes)
theorem Tab.info(h:Tab P t d n b z):∃i,P.info? t=some i/\i.zero=some z/\i.size=n/\i.bytes=b:=by
 have:=h.inf
 cases K:P.info? t with
 |none=>rw[K]at this;cases this
 |some i=>
  rw[K]at this;simp only[Option.map_some,Option.some.injEq,Prod.mk.injEq]at this;exact⟨i,rfl,this.1,this.2.1,this.2.2⟩
theorem Tab.run_size(h:Tab P t d n b z)(w:World):(sizeOf t).run P w=.ok n w:=by
 obtain⟨i,u,_,A,_⟩:=h.info;simp[sizeOf,typeInfo,u,A]
theorem Tab.run_zero(h:Tab P t d n b z)(w:World):(zeroValue t).run P w=.ok z w:=by
 obtain⟨i,u,A,_⟩:=h.info;simp[zeroValue,typeInfo,u,A]
def DS:TypeDesc->Bool
 |.struct _ |.array _ _=>true
 |_=>false
theorem Tab.run_agg(h:Tab P t d n b z)(w:World):(isAgg t).run P w=.ok (DS d) w:=by
 unfold isAgg;rw[Sem.run_bind,run_underlying h.und w];cases d<;>simp[DS]
theorem exD(h:AVr n vg s (.d (ex z)) v):v=z:=h
section
variable {P:Program} {hp:List Ow} {o:Oper} {arg:Operand->AV}
theorem Quiet.move(A:o.op=.move x\/o.op=.assign x)(C:arg x=g):Quiet P hp o arg g:=by
 subst C;refine⟨λbase s S j T w a h=>?_⟩;rcases A with A | A
 all_goals
  have u:=h x (by rw[A];simp[Op.operands]);exact BL (v:=j x) (by simp[execOp,A]) ⟨GS.Le.refl s,u⟩
theorem Cu {a b v : Value} (E : o.op = .binOp vT t x y U) (C : arg x = .d (ex a)) (N : arg y = .d (ex b)) (Y : ∀ w, (do eqGuard vT t x y a b; binOp vT t a b : Sem Value).run P w = .ok v w) : Quiet P hp o arg (.d (ex v)) := by
 refine⟨λbase s S j T G F h=>?_⟩;have u:=h x Zdt;have A:=h y Zdt;rw[C]at u;rw[N]at A;have d:j x=a:=u;have B:j y=b:=A;have:=Y s.w;refine BL (v:=v) ?_ ⟨GS.Le.refl s,rfl⟩;simp only[execOp,E,d,B,Sem.run_bind,this,Result.andThen_ok,Sem.run_pure]
theorem Quiet.add{T U:TypeId}(B:o.op=.binOp .add T x y U)(C:arg x=.d (ex (.int .i64 a)))(N:arg y=.d (ex (.int .i64 J)))(u:-9223372036854775808<=a+J)(A:a+J<=9223372036854775807):Quiet P hp o arg (.d (ex (.int .i64 (a+J)))):=
 Cu B C N λw=>by
  have e:IntKind.i64.wrap (a+J)=a+J:=IntWalk.i64_in _ Zbx;simp[eqGuard,binOp,Op.intArith,e]
theorem Quiet.sub(B:o.op=.binOp .sub t x y U)(C:arg x=.d (ex (.int .i64 a)))(N:arg y=.d (ex (.int .i64 J)))(u:-9223372036854775808<=a-J)(A:a-J<=9223372036854775807):Quiet P hp o arg (.d (ex (.int .i64 (a-J)))):=
 Cu B C N λw=>by
  have e:IntKind.i64.wrap (a-J)=a-J:=IntWalk.i64_in _ Zbx;simp[eqGuard,binOp,Op.intArith,e]
def Up:BinOp->Int->Int->Option Bool
 |.eql,a,b=>some (a==b)
 |.neq,a,b=>some (a != b)
 |.lss,a,b=>some (decide (a<b))
 |.leq,a,b=>some (decide (a<=b))
 |.gtr,a,b=>some (decide (a>b))
 |.geq,a,b=>some (decide (a ≥ b))
 |_,_,_=>none
theorem Mt(u:o.op=.binOp vT t x y U)(C:arg x=.d (ex (.int i a)))(N:arg y=.d (ex (.int i J)))(G:Up vT a J=some p):Quiet P hp o arg (.d (ex (.bool p))):=
 Cu u C N λw=>by
  cases vT<;>simp[Up]at G<;>subst G<;>simp[eqGuard,binOp,Op.intCmp]
theorem Quiet.not(A:o.op=.unOp .not t x)(C:arg x=.d (ex (.bool p))):Quiet P hp o arg (.d (ex (.bool (!p)))):=by
 refine⟨λbase s S j T w a h=>?_⟩;have u:=h x (by rw[A];simp[Op.operands]);rw[C]at u;have d:j x=.bool p:=u;exact BL (v:=.bool (!p)) (by simp[execOp,A,d,Op.unary]) ⟨GS.Le.refl s,rfl⟩
theorem Nl(B:o.op=.pick x y vX)(C:arg y=g)(G:arg x=.d (ex (.bool true))):Quiet P hp o arg g:=by
 subst C;refine⟨λbase s S j T w a h=>?_⟩;have u:=h x (by rw[B];simp[Op.operands]);have A:=h y (by rw[B];simp[Op.operands]);rw[G]at u;have d:j x=.bool true:=u;exact BL (v:=j y) (by simp[execOp,B,d,asBool]) ⟨GS.Le.refl s,A⟩
theorem Nm(C:o.op=.pick x y vX)(N:arg vX=g)(G:arg x=.d (ex (.bool false))):Quiet P hp o arg g:=by
 subst N;refine⟨λbase s S j T w a h=>?_⟩;have u:=h x (by rw[C];simp[Op.operands]);have A:=h vX (by rw[C];simp[Op.operands]);rw[G]at u;have d:j x=.bool false:=u;exact BL (v:=j vX) (by simp[execOp,C,d,asBool]) ⟨GS.Le.refl s,A⟩
theorem PK{k G:IntKind}(E:o.op=.convert t U x)(C:arg x=.d (ex (.int k a)))(l:Tab P t d n b z)(g:Tab P U (.int G) T m v):Quiet P hp o arg (.d (ex (.int G (G.wrap a)))):=by
 refine⟨λbase s S j B w F h=>?_⟩;have u:=h x Zdt;rw[C]at u;have A:j x=.int k a:=u;refine BL (v:=.int G (G.wrap a)) ?_ ⟨GS.Le.refl s,rfl⟩;simp[execOp,E,A,convert,run_underlying l.und,run_underlying g.und,Conv.intToInt]
theorem Quiet.len{e n b T q:Nat}(F:o.op=.call { callee:=.builtin .len,args:=#[x],argTypes:=#[t] })(C:II hp (arg x)=some (slD T q vp))(M:Tab P t (.slice e) n b z):Quiet P hp o arg (.d (ex (.int .i64 vp.length))):=by
 refine⟨λbase s S j E w a h=>?_⟩;have u:=Ev a (h x (by rw[F];simp[Op.operands,Call.operands])) C;obtain⟨A,c,d,B⟩:=u;refine BL (v:=.int .i64 vp.length) ?_ ⟨GS.Le.refl s,rfl⟩;simp[execOp,F,resolve,invoke,builtin,d,Builtin.len_,run_underlying M.und,goInt]
theorem Quiet.index(W:o.op=.indexAddr t x y)(C:II hp (arg x)=some (slD k va vp))(N:arg y=.d (ex (.int i a)))(M:Tab P t (.slice n) b T z)(E:Tab P n d m e v)(w:m=va)(G:0<=a)(K:a<vp.length):Quiet P hp o arg (.d (Et k (vp.getD a.toNat []))):=by
 refine⟨λbase s S j R Y X h=>?_⟩;have u:=Ev X (h x (by rw[W];simp[Op.operands])) C;have B:=h y (by rw[W];simp[Op.operands]);rw[N]at B;have O:j y=.int i a:=B;obtain⟨A,c,F,I,V,L⟩:=u;obtain⟨g,p,rfl,Q⟩:=L Zbx;subst w;refine BL (v:=.pointer (some ⟨g,p+a.toNat*m,none⟩)) ?_ ⟨GS.Le.refl s,g,_,rfl,(Q a.toNat Zbx).2⟩;simp[execOp,W,F,O,Instr.indexAt,asIntOf,run_underlying M.und,G,K,E.run_size,Addr.add_lit]
theorem LF(O:o.op=.indexAddr t x y)(C:arg x=.d (Et k c))(N:arg y=.d (ex (.int i a)))(M:Tab P t (.array va n) b T z)(B:Tab P n d m e v)(F:0<=a)(K:a<va):Quiet P hp o arg (.d (Et k (c.drop (a.toNat*m)))):=by
 refine⟨λbase s S j L w Q h=>?_⟩;have u:=h x ZcJ;have A:=h y ZcJ;rw[C]at u;rw[N]at A;have G:j y=.int i a:=A;obtain⟨g,p,E,I⟩:=u;refine BL (v:=.pointer (some ⟨g,p+a.toNat*m,none⟩)) ?_ ⟨GS.Le.refl s,g,_,rfl,I.drop _⟩;exact Zhh
theorem LE(O:o.op=.indexAddr t x y)(C:arg x=.ptr va vo)(N:arg y=.d (ex (.int i a)))(M:Tab P t (.array k n) b T z)(B:Tab P n d m e v)(F:0<=a)(K:a<k):Quiet P hp o arg (.ptr va (vo+a.toNat*m)):=by
 refine⟨λbase s S j L w Q h=>?_⟩;have u:=h x ZcJ;have A:=h y ZcJ;rw[C]at u;rw[N]at A;have G:j y=.int i a:=A;obtain⟨R,g,I,E⟩:=u;refine BL (v:=.pointer (some ⟨g,vo+a.toNat*m,none⟩)) ?_ ⟨GS.Le.refl s,R,g,I,rfl⟩;exact Zhh
theorem LG(G:o.op=.fieldAddr t x n)(C:arg x=.d (Et k c))(l:Tab P t (.struct vI) b T z)(E:vI[n]? = some vP)(a:Tab P vP.type d m e v)(B:m≠0):Quiet P hp o arg (.d (Et k (c.drop vP.offset))):=by
 refine⟨λbase s S j F w K h=>?_⟩;have u:=h x (by rw[G];simp[Op.operands]);rw[C]at u;obtain⟨g,p,A,I⟩:=u;refine BL (v:=.pointer (some ⟨g,p+vP.offset,none⟩)) ?_ ⟨GS.Le.refl s,g,_,rfl,I.drop _⟩;simp[execOp,G,A,Instr.fieldAt,Instr.sureAddr,run_underlying l.und,E,fieldPlace,a.run_size,B,Addr.add_lit]
theorem SN(F:o.op=.fieldAddr t x n)(C:arg x=.ptr k va)(l:Tab P t (.struct vI) b T z)(p:vI[n]? = some vP)(a:Tab P vP.type d m e v)(B:m≠0):Quiet P hp o arg (.ptr k (va+vP.offset)):=by
 refine⟨λbase s S j E w G h=>?_⟩;have u:=h x (by rw[F];simp[Op.operands]);rw[C]at u;obtain⟨K,g,I,A⟩:=u;refine BL (v:=.pointer (some ⟨g,va+vP.offset,none⟩)) ?_ ⟨GS.Le.refl s,K,g,I,rfl⟩;simp[execOp,F,A,Instr.fieldAt,Instr.sureAddr,run_underlying l.und,p,fieldPlace,a.run_size,B,Addr.add_lit]
theorem Jd(M:Tab P t d n b z)(W:DS d=true)(g p:Nat)(f:Nat->Value)(h:∀j,j<n->w.cell? ⟨g,p+j,none⟩=some (f j)):(loadVar t ⟨g,p,none⟩).run P w=.ok (.agg ((List.range n).map f).toArray) w:=by
 have:=run_loadCells (P:=P) w ⟨g,p,none⟩ n f λj i=>by rw[Addr.add_lit];exact h j i
 simp[loadVar,M.run_agg,W,M.run_size,this]
theorem Jz(O:o.op=.load t x)(C:arg x=.d (Et T c))(M:Tab P t d n b z)(W:DS d=true)(F:n<=c.length):Quiet P hp o arg (.d (AL (c.take n))):=by
 refine⟨λbase s S K N w a h=>?_⟩;have A:=h x ZcJ;rw[C]at A;obtain⟨g,p,E,I⟩:=A
 have G:∀j,∃u,j<n->s.w.cell? ⟨g,p+j,none⟩=some u/\u.oneCell'=true/\(Df c j).rel s u:=λj=>by
  by_cases i:j<n
  .obtain ⟨u, V⟩:=I.cell (k:=j) Zbx
   exact⟨u,λ_=>V⟩
  .exact Zhi
 obtain⟨f,L⟩:∃f:Nat->Value,∀j,j<n->s.w.cell? ⟨g,p+j,none⟩=some (f j)/\(f j).oneCell'=true/\(Df c j).rel s (f j):=⟨λj=>(G j).choose,λj i=>(G j).choose_spec i⟩;have Y:=Jd M W g p f λj i=>(L j i).1;refine BL (v:=.agg ((List.range n).map f).toArray) ?_ ⟨GS.Le.refl s,_,rfl,by simp;omega,λk B=>?_⟩
 .simp [execOp,O,E,Instr.loadAt,Instr.sureAddr,Y]
 .rw [List.length_take]at B
  have Q:k<n:=by omega
  rw[Lm Q];exact⟨f k,by simp[Q],(L k Q).2⟩
theorem LC(G:o.op=.load t x)(C:arg x=.d (Et T c))(M:Tab P t d n b z)(W:DS d=false)(E:0<c.length):Quiet P hp o arg (.d (Df c 0)):=by
 refine⟨λbase s S j F w a h=>?_⟩;have A:=h x (by rw[G];simp[Op.operands]);rw[C]at A;obtain⟨g,p,B,I⟩:=A;obtain⟨u,V,m,y⟩:=I.cell E;refine BL (v:=u) ?_ ⟨GS.Le.refl s,y⟩;simp at V;simp[execOp,G,B,Instr.loadAt,Instr.sureAddr,loadVar,M.run_agg,W,V]
theorem LA{cells:List AV}(L:o.op=.load t x)(C:arg x=.ptr m e)(i:hp[m]? = some (.var T cells))(M:Tab P t d n b z)(W:DS d=false)(G:cells[e]? = some g):Quiet P hp o arg g:=by
 refine⟨λbase s S j K w a h=>?_⟩;have A:=h x (by rw[L];simp[Op.operands]);rw[C]at A;obtain⟨-,E,I,B⟩:=A;obtain⟨c,Z,V,F,y,N,O,R,Q⟩:=a m _ i;rw[I]at V;cases V;obtain⟨u,X,J,Y⟩:=Q e g G;refine BL (v:=u) ?_ ⟨GS.Le.refl s,Y⟩;have:s.w.cell? ⟨E,e,none⟩=some u:=(CH y).trans X;simp[execOp,L,B,Instr.loadAt,Instr.sureAddr,loadVar,M.run_agg,W,this]
def VV(hp:List Ow):List AV->Option (List D)
 |[]=>some []
 |a::r=>match II hp a,VV hp r with
  |some x,some l=>some (x::l)
  |_,_=>none
theorem PD{hp:List Ow}:∀{l:List AV} {R:List D},VV hp l=some R->l.length=R.length/\∀(k:Nat) H,l[k]? = some H->II hp H=some (Df R k)
 |[],R,h=>by cases h;exact⟨rfl,λk H B=>by cases B⟩
 |a::r,R,h=>by
  unfold VV at h;split at h
  .rename_i x l u A
   cases h;obtain⟨I,V⟩:=PD A;refine⟨by simp[I],λk H B=>?_⟩
   cases k with
   |zero=>cases B;exact u
   |succ k=>exact V k H Zck
  .cases h
theorem UK{cells:List AV}(R:o.op=.load t x)(C:arg x=.ptr m e)(l:hp[m]? = some (.var T cells))(M:Tab P t d n b z)(W:DS d=true)(G:VV hp ((cells.drop e).take n)=some c)(F:e+n<=cells.length):Quiet P hp o arg (.d (AL c)):=by
 refine⟨λbase s S K O U H h=>?_⟩;have A:=h x (by rw[R];simp[Op.operands]);rw[C]at A;obtain⟨-,g,I,E⟩:=A;obtain⟨g',Z,V,N,y,a,q,w,v⟩:=H m _ l;rw[I]at V;cases V;obtain⟨L,X⟩:=PD G;have r:c.length=n:=by rw[<-L];exact ZgC
 have key:∀j,∃u,j<n->s.w.cell? ⟨g,e+j,none⟩=some u/\u.oneCell'=true/\(Df c j).rel s u:=λj=>by
  by_cases i:j<n
  .have Q:e+j<cells.length:=by omega
   obtain⟨u,J,xa,xb⟩:=v (e+j) _ (List.getElem?_eq_getElem Q);refine⟨u,λ_=>⟨(CH y).trans J,xa,?_⟩⟩;refine Ev H xb (X j _ ?_);rw[List.getElem?_take,if_pos i,List.getElem?_drop,List.getElem?_eq_getElem Q]
  .exact Zhi
 obtain⟨f,p⟩:∃f:Nat->Value,∀j,j<n->s.w.cell? ⟨g,e+j,none⟩=some (f j)/\(f j).oneCell'=true/\(Df c j).rel s (f j):=⟨λj=>(key j).choose,λj i=>(key j).choose_spec i⟩;have Y:=Jd M W g e f λj i=>(p j i).1;refine BL (v:=.agg ((List.range n).map f).toArray) ?_ ⟨GS.Le.refl s,_,rfl,by simp[r],λk B=>?_⟩
 .simp [execOp,R,E,Instr.loadAt,Instr.sureAddr,Y]
 .rw [r]at B
  exact⟨f k,by simp[B],(p k B).2⟩
theorem A0o(M:Tab P t d n b z)(W:DS d=true)(Z:Array Value)(off:Nat):(part t Z off).run P w=.ok (.agg (Z.extract off (off+n))) w:=by
 simp[part,M.run_agg,W,M.run_size]
theorem A1q{Z:Array Value}(A:Z.size=c.length)(B:∀k,k<c.length->∃u,Z[k]? = some u/\u.oneCell'=true/\(Df c k).rel s u)(h:n+b<=c.length):(AL ((c.drop n).take b)).rel s (.agg (Z.extract n (n+b))):=by
 refine⟨_,rfl,by simp;omega,λk C=>?_⟩;have C:k<b:=by simp at C;omega
 obtain⟨u,I,V⟩:=B (n+k) Zbx;rw[Lm C,Ij];refine⟨u,?_,V⟩;rw[Array.getElem?_extract,if_pos Zbx];exact I
theorem SO(L:o.op=.field t x n)(C:arg x=.d (AL c))(l:Tab P t (.struct vI) b T z)(p:vI[n]? = some vP)(a:Tab P vP.type d m e v)(W:DS d=false)(F:vP.offset<c.length):Quiet P hp o arg (.d (Df c vP.offset)):=by
 refine⟨λbase s S j K w M h=>?_⟩;have A:=h x (by rw[L];simp[Op.operands]);rw[C]at A;obtain⟨Z,E,B,I⟩:=A;obtain⟨u,V,G,y⟩:=I _ F;refine BL (v:=u) ?_ ⟨GS.Le.refl s,y⟩;simp[execOp,L,E,Instr.field,run_underlying l.und,p,asAgg,part,a.run_agg,W,V]
theorem ZM(O:o.op=.index t x y)(C:arg x=.d (AL c))(N:arg y=.d (ex (.int i a)))(M:Tab P t (.array k n) b T z)(B:Tab P n d m e v)(W:DS d=true)(g:0<=a)(K:a<k)(F:a.toNat*m+m<=c.length):Quiet P hp o arg (.d (AL ((c.drop (a.toNat*m)).take m))):=by
 refine⟨λbase s S j L w Q h=>?_⟩;have u:=h x ZcJ;have A:=h y ZcJ;rw[C]at u;rw[N]at A;have G:j y=.int i a:=A;obtain⟨Z,E,I,V⟩:=u;refine BL (v:=.agg (Z.extract (a.toNat*m) (a.toNat*m+m))) ?_ ⟨GS.Le.refl s,A1q I V F⟩;simp[execOp,O,E,G,Instr.index,asIntOf,run_underlying M.und,g,K,B.run_size,A0o B W]
theorem Ru(X:o.op=.index t x y)(C:arg x=.d (AL c))(N:arg y=.d (ex (.int i a)))(M:Tab P t (.array e n) b T z)(E:Tab P n d 1 m v)(W:DS d=false)(g:0<=a)(K:a<e)(G:a.toNat<c.length):Quiet P hp o arg (.d (Df c a.toNat)):=by
 refine⟨λbase s S j R w f h=>?_⟩;have A:=h x (by rw[X];simp[Op.operands]);have B:=h y (by rw[X];simp[Op.operands]);rw[C]at A;rw[N]at B;have O:j y=.int i a:=B;obtain⟨Z,F,I,V⟩:=A;obtain⟨u,L,Q,Y⟩:=V _ G;refine BL (v:=u) ?_ ⟨GS.Le.refl s,Y⟩;simp[execOp,X,F,O,Instr.index,asIntOf,run_underlying M.und,g,K,E.run_size,part,E.run_agg,W,L]
theorem Quiet.extract{i:Nat}(E:o.op=.extract x i)(C:arg x=.d (EX c))(K:i<c.length):Quiet P hp o arg (.d (Df c i)):=by
 refine⟨λbase s S j T w a h=>?_⟩;have A:=h x Zdt;rw[C]at A;obtain⟨Z,d,B,I⟩:=A;obtain⟨u,V,m⟩:=I i K;exact BL (v:=u) (by simp[execOp,E,d,Instr.extract,V]) ⟨GS.Le.refl s,m⟩
end
def Abs(P:Program)(f:FuncId)(ds:List D)(r:D):Prop:=
 (∀args w,(callFunc f args).run P w=.ok (.enter f args) w)/\∀(s:GS) (F:List Value),s.Ok->F.length=ds.length->(∀k,k<ds.length->(Df ds k).rel s (F.getD k undef)) ->
  Calls P f F.toArray s.w λe O=>∃v,e=.returned v/\∃c:GS,c.w=O/\GS.Le s c/\r.rel c v
def ArgsLe(F:List Ow)(arg:Operand->AV):List Operand->List D->Prop
 |[],[]=>True
 |x::l,d::R=>(∃y,II F (arg x)=some y/\D.le y d)/\ArgsLe F arg l R
 |_,_=>False
variable{vv:Operand->AV}
theorem ArgsLe.nil{hp:List Ow}:ArgsLe hp vv [] []:=trivial
variable{H:List Ow}
theorem ArgsLe.cons{l:List Operand}{d y:D}{ds:List D}(h:II H (vv x)=some y)(L:D.le y d)(Y:ArgsLe H vv l ds):ArgsLe H vv (x::l) (d::ds):=⟨⟨y,h,L⟩,Y⟩
theorem ArgsLe.rel{base:Nat}{ρ:Nat->Value}{s:GS}{hp:List Ow}{arg:Operand->AV}{ev:Operand->Value}(i:HpOk base ρ s hp):∀{l:List Operand} {R:List D},ArgsLe hp arg l R->(∀x∈l,AVr hp.length ρ s (arg x) (ev x))->l.length=R.length/\∀k,k<R.length->(Df R k).rel s ((l.map ev).getD k undef)
 |[],[],_,_=>⟨rfl,λk B=>absurd B ZbK⟩
 |[],_::_,h,_=>h.elim
 |_::_,[],h,_=>h.elim
 |x::l,d::R,⟨⟨y,u,A⟩,I⟩,h=>by
  obtain⟨V,m⟩:=ArgsLe.rel i I λx C=>h x (List.mem_cons_of_mem _ C);refine⟨by simp[V],λk B=>?_⟩
  cases k with
  |zero=>exact A s _ (Ev i (h x List.mem_cons_self) u)
  |succ k=>exact m k Zck
theorem Quiet.call{o:Oper}{f:Operand}(E:o.op=.call { callee:=.value f,args:=vJ.toArray,argTypes:=vs })(p:vv f=.d (ex (.func (.func vb) #[] #[])))(G:Abs P vb c r)(t:ArgsLe H vv vJ c):Quiet P H o vv (.d r):=by
 refine⟨λbase s S j T w F h=>?_⟩;have u:=h f (by rw[E];simp[Op.operands,Call.operands]);rw[p]at u;have d:j f=.func (.func vb) #[] #[]:=u;obtain⟨A,I⟩:=ArgsLe.rel (ev:=j) F t λx C=>h x (by rw[E];simp[Op.operands,Call.operands,C]);have V:=G.2 s (vJ.map j) T Zec I;unfold RegG.OpStep
 have q:(execOp j o).run P s.w=.ok (.enter vb (vJ.map j).toArray) s.w:=by
  simp[execOp,E,resolve,d,Deferred.ofValue,invoke,G.1]
 rw[q];exact V.mono λe O ⟨v,a,B,b,L,Y⟩=>⟨v,a,B,b,L,Y⟩
structure TyRow where
 t:TypeId
 d:TypeDesc
 n:Nat
 b:Nat
 z:Value
def Xk : List TyRow := [⟨2, .int .i64, 1, 8, .int .i64 0⟩, ⟨3, .int .i64, 1, 8, .int .i64 0⟩, ⟨4, .bool, 1, 1, .bool false⟩, ⟨5, .int .u8, 1, 1, .int .u8 0⟩, ⟨6, .int .u8, 1, 1, .int .u8 0⟩, ⟨8, .struct #[⟨"x",2,0,false,"","runtime",0⟩, ⟨"y",3,1,false,"","runtime",8⟩, ⟨"signed",4,2,false,"","runtime",16⟩, ⟨"code",6,3,false,"","runtime",17⟩], 4, 24, .agg #[.int .i64 0, .int .i64 0, .bool false, .int .u8 0]⟩, ⟨9, .string, 1, 16, .string ByteArray.empty⟩, ⟨10, .string, 1, 16, .string ByteArray.empty⟩, ⟨11, .string, 1, 16, .string ByteArray.empty⟩, ⟨12, .int .u64, 1, 8, .int .u64 0⟩, ⟨14, .struct #[⟨"msg",9,0,false,"","runtime",0⟩, ⟨"addr",12,1,false,"","runtime",16⟩], 2, 24, .agg #[.string ByteArray.empty, .int .u64 0]⟩, ⟨19, .struct #[⟨"typ",17,0,false,"","internal/runtime/maps",0⟩], 1, 8, .agg #[.pointer none]⟩, ⟨22, .slice 5, 1, 24, .slice none 0 0⟩, ⟨24, .slice 28, 1, 24, .slice none 0 0⟩, ⟨26, .struct #[⟨"N",3,0,false,"","",0⟩, ⟨"Eqs",24,1,false,"","",8⟩, ⟨"Neqs",24,2,false,"","",32⟩], 3, 56, .agg #[.int .i64 0, .slice none 0 0, .slice none 0 0]⟩, ⟨27, .slice 114, 1, 24, .slice none 0 0⟩, ⟨28, .slice 114, 1, 24, .slice none 0 0⟩, ⟨29, .slice 36, 1, 24, .slice none 0 0⟩, ⟨30, .slice 36, 1, 24, .slice none 0 0⟩, ⟨31, .slice 3, 1, 24, .slice none 0 0⟩, ⟨32, .slice 131, 1, 24, .slice none 0 0⟩, ⟨34, .struct #[⟨"Kind",3,0,false,"","",0⟩, ⟨"P",28,1,false,"","",8⟩, ⟨"N",3,2,false,"","",32⟩, ⟨"D",3,3,false,"","",40⟩, ⟨"R",3,4,false,"","",48⟩, ⟨"O",30,5,false,"","",56⟩, ⟨"L",24,6,false,"","",80⟩, ⟨"S",31,7,false,"","",104⟩, ⟨"B",32,8,false,"","",128⟩], 9, 152, .agg #[.int .i64 0, .slice none 0 0, .int .i64 0, .int .i64 0, .int .i64 0, .slice none 0 0, .slice none 0 0, .slice none 0 0, .slice none 0 0]⟩, ⟨35, .slice 24, 1, 24, .slice none 0 0⟩, ⟨36, .array 8 3, 8, 64, .agg #[.int .i64 0, .int .i64 0, .int .i64 0, .int .i64 0, .int .i64 0, .int .i64 0, .int .i64 0, .int .i64 0]⟩, ⟨37, .slice 111, 1, 24, .slice none 0 0⟩, ⟨38, .slice 111, 1, 24, .slice none 0 0⟩, ⟨39, .array 8 38, 8, 192, .agg #[.slice none 0 0, .slice none 0 0, .slice none 0 0, .slice none 0 0, .slice none 0 0, .slice none 0 0, .slice none 0 0, .slice none 0 0]⟩, ⟨41, .struct #[⟨"L",36,0,false,"","",0⟩, ⟨"Q",38,8,false,"","",64⟩, ⟨"R",39,9,false,"","",88⟩], 17, 280, .agg #[.int .i64 0, .int .i64 0, .int .i64 0, .int .i64 0, .int .i64 0, .int .i64 0, .int .i64 0, .int .i64 0, .slice none 0 0, .slice none 0 0, .slice none 0 0, .slice none 0 0, .slice none 0 0, .slice none 0 0, .slice none 0 0, .slice none 0 0, .slice none 0 0]⟩, ⟨42, .slice 129, 1, 24, .slice none 0 0⟩, ⟨43, .slice 184, 1, 24, .slice none 0 0⟩, ⟨44, .slice 187, 1, 24, .slice none 0 0⟩, ⟨46, .struct #[⟨"N",3,0,false,"","",0⟩, ⟨"Cof",24,1,false,"","",8⟩, ⟨"G",24,2,false,"","",32⟩, ⟨"O",30,3,false,"","",56⟩, ⟨"C",35,4,false,"","",80⟩, ⟨"Q",35,5,false,"","",104⟩, ⟨"S",35,6,false,"","",128⟩, ⟨"R",41,7,false,"","",152⟩, ⟨"At",42,24,false,"","",432⟩, ⟨"Sq",43,25,false,"","",456⟩, ⟨"X",44,26,false,"","",480⟩, ⟨"B",32,27,false,"","",504⟩], 28, 528, .agg #[.int .i64 0, .slice none 0 0, .slice none 0 0, .slice none 0 0, .slice none 0 0, .slice none 0 0, .slice none 0 0, .int .i64 0, .int .i64 0, .int .i64 0, .int .i64 0, .int .i64 0, .int .i64 0, .int .i64 0, .int .i64 0, .slice none 0 0, .slice none 0 0, .slice none 0 0, .slice none 0 0, .slice none 0 0, .slice none 0 0, .slice none 0 0, .slice none 0 0, .slice none 0 0, .slice none 0 0, .slice none 0 0, .slice none 0 0, .slice none 0 0]⟩, ⟨48, .struct #[⟨"K",26,0,false,"","",0⟩, ⟨"C",34,3,false,"","",56⟩, ⟨"E",46,12,false,"","",208⟩], 40, 736, .agg #[.int .i64 0, .slice none 0 0, .slice none 0 0, .int .i64 0, .slice none 0 0, .int .i64 0, .int .i64 0, .int .i64 0, .slice none 0 0, .slice none 0 0, .slice none 0 0, .slice none 0 0, .int .i64 0, .slice none 0 0, .slice none 0 0, .slice none 0 0, .slice none 0 0, .slice none 0 0, .slice none 0 0, .int .i64 0, .int .i64 0, .int .i64 0, .int .i64 0, .int .i64 0, .int .i64 0, .int .i64 0, .int .i64 0, .slice none 0 0, .slice none 0 0, .slice none 0 0, .slice none 0 0, .slice none 0 0, .slice none 0 0, .slice none 0 0, .slice none 0 0, .slice none 0 0, .slice none 0 0, .slice none 0 0, .slice none 0 0, .slice none 0 0]⟩, ⟨49, .int .i64, 1, 8, .int .i64 0⟩, ⟨55, .slice 212, 1, 24, .slice none 0 0⟩, ⟨56, .slice 64, 1, 24, .slice none 0 0⟩, ⟨58, .struct #[⟨"Kind",5,0,false,"","",0⟩, ⟨"L",55,1,false,"","",8⟩, ⟨"V",56,2,false,"","",32⟩], 3, 56, .agg #[.int .u8 0, .slice none 0 0, .slice none 0 0]⟩, ⟨59, .int .u16, 1, 2, .int .u16 0⟩, ⟨61, .slice 22, 1, 24, .slice none 0 0⟩, ⟨63, .array 2 58, 6, 112, .agg #[.int .u8 0, .slice none 0 0, .slice none 0 0, .int .u8 0, .slice none 0 0, .slice none 0 0]⟩, ⟨64, .int .i8, 1, 1, .int .i8 0⟩, ⟨65, .array 2 64, 2, 2, .agg #[.int .i8 0, .int .i8 0]⟩, ⟨67, .struct #[⟨"Kind",3,0,false,"","",0⟩, ⟨"P",28,1,false,"","",8⟩, ⟨"O",30,2,false,"","",32⟩], 3, 56, .agg #[.int .i64 0, .slice none 0 0, .slice none 0 0]⟩, ⟨83, .struct #[⟨"Part",5,0,false,"","",0⟩, ⟨"At",5,1,false,"","",1⟩, ⟨"By",3,2,false,"","",8⟩], 3, 16, .agg #[.int .u8 0, .int .u8 0, .int .i64 0]⟩, ⟨92, .struct #[⟨"b",22,0,false,"","eliminant/claim",0⟩], 1, 24, .agg #[.slice none 0 0]⟩, ⟨95, .struct #[⟨"B",22,0,false,"","",0⟩, ⟨"Ok",4,1,false,"","",24⟩], 2, 32, .agg #[.slice none 0 0, .bool false]⟩, ⟨103, .struct #[⟨"b",22,0,false,"","eliminant/claim",0⟩], 1, 24, .agg #[.slice none 0 0]⟩, ⟨107, .slice 335, 1, 24, .slice none 0 0⟩, ⟨109, .struct #[⟨"Neg",4,0,false,"","",0⟩, ⟨"Mag",107,1,false,"","",8⟩], 2, 32, .agg #[.bool false, .slice none 0 0]⟩, ⟨111, .struct #[⟨"Num",109,0,false,"","",0⟩, ⟨"Den",109,2,false,"","",32⟩], 4, 64, .agg #[.bool false, .slice none 0 0, .bool false, .slice none 0 0]⟩, ⟨112, .array 8 3, 8, 64, .agg #[.int .i64 0, .int .i64 0, .int .i64 0, .int .i64 0, .int .i64 0, .int .i64 0, .int .i64 0, .int .i64 0]⟩, ⟨114, .struct #[⟨"C",111,0,false,"","",0⟩, ⟨"M",112,4,false,"","",64⟩], 12, 128, .agg #[.bool false, .slice none 0 0, .bool false, .slice none 0 0, .int .i64 0, .int .i64 0, .int .i64 0, .int .i64 0, .int .i64 0, .int .i64 0, .int .i64 0, .int .i64 0]⟩, ⟨129, .struct #[⟨"Lo",111,0,false,"","",0⟩, ⟨"Hi",111,4,false,"","",64⟩], 8, 128, .agg #[.bool false, .slice none 0 0, .bool false, .slice none 0 0, .bool false, .slice none 0 0, .bool false, .slice none 0 0]⟩, ⟨131, .array 8 129, 64, 1024, .agg #[.bool false, .slice none 0 0, .bool false, .slice none 0 0, .bool false, .slice none 0 0, .bool false, .slice none 0 0, .bool false, .slice none 0 0, .bool false, .slice none 0 0, .bool false, .slice none 0 0, .bool false, .slice none 0 0, .bool false, .slice none 0 0, .bool false, .slice none 0 0, .bool false, .slice none 0 0, .bool false, .slice none 0 0, .bool false, .slice none 0 0, .bool false, .slice none 0 0, .bool false, .slice none 0 0, .bool false, .slice none 0 0, .bool false, .slice none 0 0, .bool false, .slice none 0 0, .bool false, .slice none 0 0, .bool false, .slice none 0 0, .bool false, .slice none 0 0, .bool false, .slice none 0 0, .bool false, .slice none 0 0, .bool false, .slice none 0 0, .bool false, .slice none 0 0, .bool false, .slice none 0 0, .bool false, .slice none 0 0, .bool false, .slice none 0 0, .bool false, .slice none 0 0, .bool false, .slice none 0 0, .bool false, .slice none 0 0, .bool false, .slice none 0 0]⟩, ⟨139, .struct #[⟨"k",26,0,false,"","eliminant/claim",0⟩], 3, 56, .agg #[.int .i64 0, .slice none 0 0, .slice none 0 0]⟩, ⟨143, .struct #[⟨"rules",139,0,true,"","eliminant/claim",0⟩, ⟨"c",34,3,false,"","eliminant/claim",56⟩], 12, 208, .agg #[.int .i64 0, .slice none 0 0, .slice none 0 0, .int .i64 0, .slice none 0 0, .int .i64 0, .int .i64 0, .int .i64 0, .slice none 0 0, .slice none 0 0, .slice none 0 0, .slice none 0 0]⟩, ⟨150, .struct #[⟨"claims",143,0,true,"","eliminant/claim",0⟩, ⟨"e",46,12,false,"","eliminant/claim",208⟩], 40, 736, .agg #[.int .i64 0, .slice none 0 0, .slice none 0 0, .int .i64 0, .slice none 0 0, .int .i64 0, .int .i64 0, .int .i64 0, .slice none 0 0, .slice none 0 0, .slice none 0 0, .slice none 0 0, .int .i64 0, .slice none 0 0, .slice none 0 0, .slice none 0 0, .slice none 0 0, .slice none 0 0, .slice none 0 0, .int .i64 0, .int .i64 0, .int .i64 0, .int .i64 0, .int .i64 0, .int .i64 0, .int .i64 0, .int .i64 0, .slice none 0 0, .slice none 0 0, .slice none 0 0, .slice none 0 0, .slice none 0 0, .slice none 0 0, .slice none 0 0, .slice none 0 0, .slice none 0 0, .slice none 0 0, .slice none 0 0, .slice none 0 0, .slice none 0 0]⟩, ⟨152, .struct #[⟨"N",4,0,false,"","",0⟩, ⟨"Cof",4,1,false,"","",1⟩, ⟨"G",4,2,false,"","",2⟩, ⟨"O",4,3,false,"","",3⟩, ⟨"C",4,4,false,"","",4⟩, ⟨"Q",4,5,false,"","",5⟩, ⟨"S",4,6,false,"","",6⟩, ⟨"R",4,7,false,"","",7⟩, ⟨"At",4,8,false,"","",8⟩, ⟨"Sq",4,9,false,"","",9⟩, ⟨"X",4,10,false,"","",10⟩, ⟨"B",4,11,false,"","",11⟩], 12, 12, .agg #[.bool false, .bool false, .bool false, .bool false, .bool false, .bool false, .bool false, .bool false, .bool false, .bool false, .bool false, .bool false]⟩, ⟨184, .struct #[⟨"A",111,0,false,"","",0⟩, ⟨"P",28,4,false,"","",64⟩], 5, 88, .agg #[.bool false, .slice none 0 0, .bool false, .slice none 0 0, .slice none 0 0]⟩, ⟨187, .array 8 111, 32, 512, .agg #[.bool false, .slice none 0 0, .bool false, .slice none 0 0, .bool false, .slice none 0 0, .bool false, .slice none 0 0, .bool false, .slice none 0 0, .bool false, .slice none 0 0, .bool false, .slice none 0 0, .bool false, .slice none 0 0, .bool false, .slice none 0 0, .bool false, .slice none 0 0, .bool false, .slice none 0 0, .bool false, .slice none 0 0, .bool false, .slice none 0 0, .bool false, .slice none 0 0, .bool false, .slice none 0 0, .bool false, .slice none 0 0]⟩, ⟨195, .struct #[⟨"N",64,0,false,"","",0⟩, ⟨"D",64,1,false,"","",1⟩, ⟨"K",5,2,false,"","",2⟩], 3, 3, .agg #[.int .i8 0, .int .i8 0, .int .u8 0]⟩, ⟨201, .int .u64, 1, 8, .int .u64 0⟩, ⟨210, .slice 299, 1, 24, .slice none 0 0⟩, ⟨212, .struct #[⟨"T",210,0,false,"","",0⟩], 1, 24, .agg #[.slice none 0 0]⟩, ⟨222, .array 3 3, 3, 24, .agg #[.int .i64 0, .int .i64 0, .int .i64 0]⟩, ⟨225, .struct #[⟨"lo",3,0,false,"","eliminant/claim",0⟩, ⟨"hi",3,1,false,"","eliminant/claim",8⟩], 2, 16, .agg #[.int .i64 0, .int .i64 0]⟩, ⟨231, .struct #[⟨"Low",3,0,false,"","",0⟩, ⟨"High",3,1,false,"","",8⟩], 2, 16, .agg #[.int .i64 0, .int .i64 0]⟩, ⟨243, .int .u64, 1, 8, .int .u64 0⟩, ⟨299, .array 5 64, 5, 5, .agg #[.int .i8 0, .int .i8 0, .int .i8 0, .int .i8 0, .int .i8 0]⟩, ⟨315, .array 8 4, 8, 8, .agg #[.bool false, .bool false, .bool false, .bool false, .bool false, .bool false, .bool false, .bool false]⟩, ⟨321, .slice 38, 1, 24, .slice none 0 0⟩, ⟨335, .int .u32, 1, 4, .int .u32 0⟩, ⟨346, .slice 109, 1, 24, .slice none 0 0⟩, ⟨375, .int .u8, 1, 1, .int .u8 0⟩]
def QD:List TyRow->Nat->Option TyRow
 |[],_=>none
 |p::r,t=>bif Nat.beq p.t t then some p else QD r t
def Wd:List TyRow->Prop
 |[]=>True
 |p::r=>Tab Tryz.prog p.t p.d p.n p.b p.z/\Wd r
theorem Xn:Wd Xk:=⟨⟨Tryz.underlying2,by kernel_rfl⟩,⟨Tryz.underlying3,by kernel_rfl⟩,⟨Tryz.underlying4,by kernel_rfl⟩,⟨Tryz.underlying5,by kernel_rfl⟩,⟨Tryz.underlying6,by kernel_rfl⟩,⟨Tryz.underlying8,by kernel_rfl⟩,⟨Tryz.underlying9,by kernel_rfl⟩,⟨Tryz.underlying10,by kernel_rfl⟩,⟨Tryz.underlying11,by kernel_rfl⟩,⟨Tryz.underlying12,by kernel_rfl⟩,⟨Tryz.underlying14,by kernel_rfl⟩,⟨Tryz.underlying19,by kernel_rfl⟩,⟨Tryz.underlying22,by kernel_rfl⟩,⟨Tryz.underlying24,by kernel_rfl⟩,⟨Tryz.underlying26,by kernel_rfl⟩,⟨Tryz.underlying27,by kernel_rfl⟩,⟨Tryz.underlying28,by kernel_rfl⟩,⟨Tryz.underlying29,by kernel_rfl⟩,⟨Tryz.underlying30,by kernel_rfl⟩,⟨Tryz.underlying31,by kernel_rfl⟩,⟨Tryz.underlying32,by kernel_rfl⟩,⟨Tryz.underlying34,by kernel_rfl⟩,⟨Tryz.underlying35,by kernel_rfl⟩,⟨Tryz.underlying36,by kernel_rfl⟩,⟨Tryz.underlying37,by kernel_rfl⟩,⟨Tryz.underlying38,by kernel_rfl⟩,⟨Tryz.underlying39,by kernel_rfl⟩,⟨Tryz.underlying41,by kernel_rfl⟩,⟨Tryz.underlying42,by kernel_rfl⟩,⟨Tryz.underlying43,by kernel_rfl⟩,⟨Tryz.underlying44,by kernel_rfl⟩,⟨Tryz.underlying46,by kernel_rfl⟩,⟨Tryz.underlying48,by kernel_rfl⟩,⟨Tryz.underlying49,by kernel_rfl⟩,⟨Tryz.underlying55,by kernel_rfl⟩,⟨Tryz.underlying56,by kernel_rfl⟩,⟨Tryz.underlying58,by kernel_rfl⟩,⟨Tryz.underlying59,by kernel_rfl⟩,⟨Tryz.underlying61,by kernel_rfl⟩,⟨Tryz.underlying63,by kernel_rfl⟩,⟨Tryz.underlying64,by kernel_rfl⟩,⟨Tryz.underlying65,by kernel_rfl⟩,⟨Tryz.underlying67,by kernel_rfl⟩,⟨Tryz.underlying83,by kernel_rfl⟩,⟨Tryz.underlying92,by kernel_rfl⟩,⟨Tryz.underlying95,by kernel_rfl⟩,⟨Tryz.underlying103,by kernel_rfl⟩,⟨Tryz.underlying107,by kernel_rfl⟩,⟨Tryz.underlying109,by kernel_rfl⟩,⟨Tryz.underlying111,by kernel_rfl⟩,⟨Tryz.underlying112,by kernel_rfl⟩,⟨Tryz.underlying114,by kernel_rfl⟩,⟨Tryz.underlying129,by kernel_rfl⟩,⟨Tryz.underlying131,by kernel_rfl⟩,⟨Tryz.underlying139,by kernel_rfl⟩,⟨Tryz.underlying143,by kernel_rfl⟩,⟨Tryz.underlying150,by kernel_rfl⟩,⟨Tryz.underlying152,by kernel_rfl⟩,⟨Tryz.underlying184,by kernel_rfl⟩,⟨Tryz.underlying187,by kernel_rfl⟩,⟨Tryz.underlying195,by kernel_rfl⟩,⟨Tryz.underlying201,by kernel_rfl⟩,⟨Tryz.underlying210,by kernel_rfl⟩,⟨Tryz.underlying212,by kernel_rfl⟩,⟨Tryz.underlying222,by kernel_rfl⟩,⟨Tryz.underlying225,by kernel_rfl⟩,⟨Tryz.underlying231,by kernel_rfl⟩,⟨Tryz.underlying243,by kernel_rfl⟩,⟨Tryz.underlying299,by kernel_rfl⟩,⟨Tryz.underlying315,by kernel_rfl⟩,⟨Tryz.underlying321,by kernel_rfl⟩,⟨Tryz.underlying335,by kernel_rfl⟩,⟨Tryz.underlying346,by kernel_rfl⟩,⟨Tryz.underlying375,by kernel_rfl⟩,trivial⟩
theorem Oa:∀{l:List TyRow},Wd l->∀{t:Nat} {p:TyRow},QD l t=some p->p.t=t/\Tab Tryz.prog p.t p.d p.n p.b p.z
 |[],_,_,_,h=>by cases h
 |q::l,⟨u,A⟩,t,p,h=>by
  unfold QD at h
  cases E:Nat.beq q.t t with
  |true=>rw[E]at h;cases h;exact⟨Nat.eq_of_beq_eq_true E,u⟩
  |false=>rw[E]at h;exact Oa A h
theorem Aa(h:QD Xk t=some ⟨t,d,n,b,z⟩):Tab Tryz.prog t d n b z:=(Oa Xn h).2
end
end Go.Proofs.YtcikkglcoeedlaaGreat
