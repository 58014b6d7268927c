/- Part 2. No condition. -/
import Derived.Laws.AppendOwn
import Derived.Test.YtcikkglcoeedlaaGreatDf1
set_option linter.unusedSimpArgs false
set_option linter.unusedVariables false
set_option maxRecDepth 100000
namespace Go.Proofs.YtcikkglcoeedlaaGreat
open _root_.Go.Proofs.Tryz
open Go.RowKit
variable{vj:Act}{vM:Array Bool}{vV:Array Field}{vs:Array TypeId}{vW:BinOp}{vR:Exit->Act->World->Prop}{ub:Field}{ve:FuncId}{a j:Int}{i:IntKind}{vN:List Operand}{n b T m c k g vk:Nat}{vi ua:Nat->Value}{va:Oper}{x y vS:Operand}{P:Program}{vI:Prop}{us:Shape}{d:TypeDesc}{t U:TypeId}{z u:Value}{w:World}
structure GS where
 S:Nat->Nat->Prop
 tag:Nat->Nat
 w:World
structure GS.Ok(s:GS):Prop where
 lt:∀b k,s.S b k->b<s.w.heap.size
 safe:∀b k,Ty s.w b 335->s.S b k
structure GS.Chg(s s':GS):Prop where
 size:s.w.heap.size<=s'.w.heap.size
 up:∀b k,s.S b k->s'.S b k
 cell:∀b cs T fz,s.w.heap[b]? = some (.cells cs T fz)->∃cs' fz',s'.w.heap[b]? = some (.cells cs' T fz')/\∀k,s.S b k->cs'[k]? = cs[k]?
structure GS.Le(s s':GS):Prop where
 ext:Ext s.w s'.w
 up:∀b k,s.S b k->s'.S b k
 old:∀b k,b<s.w.heap.size->s'.S b k->s.S b k
 tag:∀b,b<s.w.heap.size->s'.tag b=s.tag b
 ok:s.Ok->s'.Ok
theorem GS.Le.refl(s:GS):GS.Le s s:=⟨Ext.refl _,λ_ _ h=>h,λ_ _ _ h=>h,λ_ _=>rfl,λh=>h⟩
theorem GS.Le.trans{a b c:GS}(h:GS.Le a b)(k:GS.Le b c):GS.Le a c:=
 ⟨h.ext.trans k.ext,λb U V=>k.up _ _ (h.up _ _ V),λx U C V=>h.old _ _ C (k.old _ _ (Yaq C h.ext.size) V),λx C=>(k.tag x (Yaq C h.ext.size)).trans (h.tag x C),λV=>k.ok (h.ok V)⟩
variable{s vr:GS}
theorem GS.Le.chg(h:GS.Le s vr):GS.Chg s vr:=⟨h.ext.size,h.up,λx f T Q C=>⟨f,Q,(h.ext.block (Bw C)).trans C,λ_ _=>rfl⟩⟩
theorem GS.Chg.refl(s:GS):GS.Chg s s:=(GS.Le.refl s).chg
theorem GS.Chg.trans{a b c:GS}(h:GS.Chg a b)(k:GS.Chg b c):GS.Chg a c:=
 ⟨Yat h.size k.size,λx y V=>k.up _ _ (h.up _ _ V),λx f T Q C=>by
  obtain⟨j,B,q,A⟩:=h.cell x f T Q C;obtain⟨E,z,K,Y⟩:=k.cell x j T B q;exact⟨E,z,K,λy N=>(Y y (h.up _ _ N)).trans (A y N)⟩⟩
theorem GS.Le.heap(h:Ext s.w w)(a:w.heap=s.w.heap):GS.Le s { s with w:=w }:=
 ⟨h,λ_ _ h=>h,λ_ _ _ h=>h,λ_ _=>rfl,λV=>⟨λb k E=>by show b<w.heap.size;rw[a];exact V.lt b k E,λb k ⟨f,Q,E⟩=>V.safe b k ⟨f,Q,by rw[<-a];exact E⟩⟩⟩
def GS.grown(s:GS)(M:World):GS:=⟨λb k=>s.S b k\/(s.w.heap.size<=b/\b<M.heap.size),s.tag,M⟩
theorem FG(h:Ext s.w w):GS.Le s (s.grown w):=
 ⟨h, fun _ _ h => .inl h, fun b k E V => V.elim id fun A => absurd E ZbG, fun _ _ => rfl, fun V => ⟨fun b k E => E.elim (fun A => Yaq (V.lt b k A) h.size) fun A => A.2, fun b k ⟨f, Q, E⟩ => by
  rcases YaD b s.w.heap.size with q | q
  .exact .inl (V.safe b k ⟨f,Q,(h.block q).symm.trans E⟩)
  .exact .inr ⟨q,Bw E⟩⟩⟩
def GS.mk'(s:GS)(f:Array Value)(T:TypeId)(i:Nat):GS:=⟨s.S,λb=>if b=s.w.heap.size then i else s.tag b,s.w.alloc (.cells f T)⟩
theorem GS.le_mk'(s:GS)(f:Array Value)(T:TypeId)(i:Nat)(B:T≠335):GS.Le s (s.mk' f T i):=
 ⟨(Ext.refl _).alloc _, fun _ _ h => h, fun _ _ _ h => h, fun b E => by show (if b = s.w.heap.size then i else s.tag b) = _; rw [Yai ZbG], fun V => ⟨fun b k E => Yaq (V.lt b k E) (by show _ ≤ (s.w.alloc _).heap.size; simp), fun b k ⟨C, Q, E⟩ => by
  replace E:(s.w.alloc (.cells f T)).heap[b]? = some (.cells C 335 Q):=E;rcases YaD b s.w.heap.size with q | q
  .exact V.safe b k ⟨C,Q,(Below.heap_alloc s.w _ b q).symm.trans E⟩
  .exfalso
   have A:=Bw E;have K:b=s.w.heap.size:=by have Y:(s.w.alloc (.cells f T)).heap.size=s.w.heap.size+1:=Yec ..;omega
   rw[K,heap_alloc_new]at E;cases E;exact B rfl⟩⟩
structure D where
 rel:GS->Value->Prop
 st:∀{s s':GS} {v:Value},rel s v->GS.Chg s s'->rel s' v
def ex(u:Value):D:=⟨λ_ v=>v=u,λh _=>h⟩
def CC:D:=⟨λ_ _=>True,λh _=>h⟩
instance:Inhabited D:=⟨CC⟩
def DM(S:List D)(k:Nat):D:=S.getD k CC
def AQ(ds:List D):D:=⟨λs v=>∃f:Array Value,v=.agg f/\f.size=ds.length/\∀k,k<ds.length->∃u,f[k]? = some u/\u.oneCell'=true/\(DM ds k).rel s u,
 λ⟨f,q,A,K⟩ F=>⟨f,q,A,λk B=>let⟨u,Y,n,C⟩:=K k B;⟨u,Y,n,(DM ds k).st C F⟩⟩⟩
def Gb(S:List D):D:=⟨λs v=>∃f:Array Value,v=.tuple f/\f.size=S.length/\∀k,k<S.length->∃u,f[k]? = some u/\(DM S k).rel s u,
 λ⟨f,q,A,K⟩ F=>⟨f,q,A,λk B=>let⟨u,Y,C⟩:=K k B;⟨u,Y,(DM S k).st C F⟩⟩⟩
def Lies(s:GS)(b o:Nat)(T:TypeId)(S:List D):Prop:=
 ∃f Q,s.w.heap[b]? = some (.cells f T Q)/\∀k,k<S.length->s.S b (o+k)/\∃u,f[o+k]? = some u/\u.oneCell'=true/\(DM S k).rel s u
theorem Lies.st{s s':GS}{ds:List D}(h:Lies s n b t ds)(F:GS.Chg s s'):Lies s' n b t ds:=by
 obtain⟨f,Q,q,A⟩:=h;obtain⟨L,I,K,Y⟩:=F.cell n f t Q q;refine⟨L,I,K,λk B=>?_⟩;obtain⟨C,u,E,G,y⟩:=A k B;exact⟨F.up _ _ C,u,(Y _ C).trans E,G,(DM ds k).st y F⟩
variable{v:List D}
theorem Lies.cell{b o:Nat}(h:Lies s b o t v){k:Nat}(B:k<v.length):∃u,s.w.cell? ⟨b,o+k,none⟩=some u/\u.oneCell'=true/\(DM v k).rel s u:=by
 obtain⟨f,Q,q,A⟩:=h;obtain⟨_,u,K,Y⟩:=A k B;exact⟨u,(Db q).trans K,Y⟩
theorem IM(S:List D)(i k:Nat):DM (S.drop i) k=DM S (i+k):=by simp[DM,YbO]
theorem Lk{i k:Nat}(h:k<i):DM (v.take i) k=DM v k:=by simp[DM,YaK,h]
theorem Lies.drop{b o:Nat}(h:Lies s b o t v)(i:Nat):Lies s b (o+i) t (v.drop i):=by
 obtain⟨f,Q,q,A⟩:=h;refine⟨f,Q,q,λk B=>?_⟩;rw[YbS]at B;rw[IM,YbT];exact A (i+k) ZbG
theorem Lies.take{b o:Nat}(h:Lies s b o t v)(i:Nat):Lies s b o t (v.take i):=by
 obtain⟨f,Q,q,A⟩:=h;refine⟨f,Q,q,λk B=>?_⟩;rw[YaO]at B;rw[Lk ZbG];exact A k ZbG
def Fg(T:TypeId)(ds:List D):D:=⟨λs v=>∃b o,v=.pointer (some ⟨b,o,none⟩)/\Lies s b o T ds,λ⟨b,o,q,A⟩ F=>⟨b,o,q,A.st F⟩⟩
def slD(T:TypeId)(sz:Nat)(G:List (List D)):D:=
 ⟨λs v=>∃(A:Option Addr) (c:Nat),v=.slice A G.length c/\G.length<=c/\c<=9223372036854775807 /\
  (0<G.length->∃b o,A=some ⟨b,o,none⟩/\(∀k,k<G.length->(G.getD k []).length=sz/\Lies s b (o+k*sz) T (G.getD k []))),
 λ⟨A,c,q,B,K,Y⟩ F=>⟨A,c,q,B,K,λd=>let⟨b,o,n,E⟩:=Y d;⟨b,o,n,λk C=>⟨(E k C).1,(E k C).2.st F⟩⟩⟩⟩
def D.le(x y:D):Prop:=∀s v,x.rel s v->y.rel s v
theorem D.le.refl(x:D):D.le x x:=λ_ _ h=>h
theorem Ae{x y:D}(h:x=y):D.le x y:=h▸D.le.refl x
theorem slD.nil(T:TypeId)(sz:Nat)(s:GS):(slD T sz []).rel s (.slice none 0 0):=⟨none,0,rfl,by simp,by omega,λh=>absurd h ZbV⟩
theorem Uj(A:List (List D))(i k:Nat):(A.drop i).getD k []=A.getD (i+k) []:=by simp[YbO]
variable{vm:List (List D)}
theorem OH(h:b<n):(vm.take n).getD b []=vm.getD b []:=by simp[YaK,h]
section
namespace RegG
open Go.RowKit
def _root_.Go.Proofs.YtcikkglcoeedlaaGreat.GS.dr(s:GS):GS:={ s with w:=s.w.drew }
def OpStep(P:Program)(o:Oper)(ev:Operand->Value)(s:GS)(R:Value->GS->Prop):Prop:=
 match (execOp ev o).run P s.w with
 |.ok (.value v) M=>∃j:GS,j.w=M/\R v j
 |.ok .skip M=>∃j:GS,j.w=M/\R undef j
 |.ok (.enter f args) M=>Calls P f args M λe N=>∃v,e=.returned v/\∃j:GS,j.w=N/\R v j
 |_=>False
theorem opStep_wp{i:Operand->Value}{R:Value->GS->Prop}{K:Act->World->Prop}(E:BO va.op=true)(x:∀y∈va.op.operands,vj.eval y=i y)
  (h:OpStep P va i s R) (A:∀v (N:GS),R v N->K (vj.put va.dst v) N.w):va.wp P vj s.w K vR:=by
 unfold Oper.wp
 have Z:∀q b,va.op≠.select q b:=by
  intro q b e;rw[e]at E;cases E
 rw[execOp_congr va Z x];unfold OpStep at h;split at h
 .rename_i v N V;rw[V];obtain⟨j,rfl,h⟩:=h;exact A _ _ h
 .rename_i N V;rw[V];obtain⟨j,rfl,h⟩:=h;exact A _ _ h
 .rename_i f args N V
  rw[V];exact Calls.mono h λe L ⟨v,a,j,u,B⟩=>by subst a;subst u;exact A _ _ B
 .exact h.elim
abbrev Fact:=List Value->GS->Prop
def Known(X:List Shape)(h:List Fact)(i:Nat)(g:Nat->Value)(w:GS):Prop:=
 ∀x,X[i]? = some x->∀j∈x.bef,∀y F,X[j]? = some y->h[j]? = some F->F (y.deps.map g) w
def StepAt(P:Program)(X:List Shape)(h:List Fact)(a:Act)(W:GS)(i:Nat)(o:Oper)(x:Shape)(F:Fact):Prop:=
 ∀(g:Nat->Value) (w:GS) (q:Operand->Value),GS.Le W w->Known X h i g w->UY q g x.env ->
  (∀t,(∀p∈x.env,p.1≠t)->q (.tmp t)=a.tmps.getD t undef)->(∀v,q (.const v)=v)->(∀f,q (.func f)=.func (.func f) #[] #[]) ->
  (Fo o g=true->OpStep P o q w λv M=>GS.Le w M/\F (x.deps.map (upd g i v)) M)/\(Fo o g=false->F (x.deps.map (upd g i undef)) w)
def StepsAt(P:Program)(X:List Shape)(h:List Fact)(a:Act)(W:GS):Nat->List Oper->List Shape->List Fact->Prop
 |i,o::L,x::S,F::T=>StepAt P X h a W i o x F/\StepsAt P X h a W (i+1) L S T
 |_,_,[],[]=>True
 |_,_,_,_=>False
theorem StepsAt.at{P:Program}{X:List Shape}{B:List Fact}{a:Act}{W:GS}:∀{S:List Shape} {T:List Fact} {L:List Oper} {i:Nat},StepsAt P X B a W i L S T ->
  S.length=T.length/\∀k o x,L[k]? = some o->S[k]? = some x->∃F,T[k]? = some F/\StepAt P X B a W (i+k) o x F
 |[],[],L,i,_=>⟨rfl,λk o x _ C=>by simp at C⟩
 |[],_::_,L,i,h=>by cases L<;>exact h.elim
 |_::_,[],L,i,h=>by cases L<;>exact h.elim
 |x::S,F::T,[],i,h=>h.elim
 |x::S,F::T,o::L,i,h=>Zab
section
variable {P:Program} {L:List Oper} {sh:List Shape} {Rs:List Fact} {a:Act} {w0:GS}
structure HInv(L:List Oper)(sh:List Shape)(Rs:List Fact)(a:Act)(w0:GS)(listed:Array Bool)(g:Nat->Value)(a':Act)(w':GS):Prop where
 size:listed.size=L.length
 closed:∀j o,L[j]? = some o->listed.getD j false=true->∀e∈Bz o,listed.getD e false=true
 tail:∀t,sh.length<=t->listed.getD t false=false
 asz:a'.tmps.size=a.tmps.size
 adef:a'.defers=a.defers
 a1:∀j o d,j<sh.length->L[j]? = some o->listed.getD j false=true->o.dst=some d->a'.tmps[d]? = some (g j)
 a2:∀t,(∀j o,j<sh.length->L[j]? = some o->listed.getD j false=true->o.dst≠some t)->a'.tmps[t]? = a.tmps[t]?
 facts:∀j y F,sh[j]? = some y->Rs[j]? = some F->listed.getD j false=true->F (y.deps.map g) w'
 ext:GS.Le w0 w'
theorem step_inv(Q:Eg L sh=true)(M:HI L sh.length a.tmps.size=true)
  (xa:∀F∈Rs,∀S X Z,GS.Le X Z->F S X->F S Z)
 {g:Nat->Value} (V:HInv L sh Rs a w0 vM g vj s) {i:Nat} {F:Fact} (m:L[i]? = some va) (C:sh[i]? = some us) (hF:Rs[i]? = some F)
  (v:vM.getD i false=false) (o:∀e∈Bz va,vM.getD e false=true) (K:GS.Le s vr) (p:F (us.deps.map (upd g i z)) vr) :
  HInv L sh Rs a w0 (vM.setIfInBounds i true) (upd g i z) (vj.put va.dst z) vr:=by
 have U:i<sh.length:=EM C;have x:i<vM.size:=by rw[V.size];exact(Yae.1 m).1
 have T:∀j,(vM.setIfInBounds i true).getD j false=true->j≠i->vM.getD j false=true:=λj h W=>by
  exact Zhy
 have xf:∀j y n,sh[j]? = some y->L[j]? = some n->vM.getD j false=true->i∉y.bef:=λj y n N l I J=>by
  have:=Eo Q V.closed j y n N l (V.closed j n l I) i J;rw[v]at this;cases this
 refine⟨by simp[V.size],λj n l I e H=>?_,λt E=>?_,?_,?_,λj n d W l I R=>?_,λt E=>?_,λj y G N u I=>?_,V.ext.trans K⟩
 .by_cases r:j=i
  .subst r
   have:n=va:=Yag (l.symm.trans m);subst this;exact getD_set_true (o e H)
  .exact getD_set_true (V.closed j n l (T j I r) e H)
 .rw [getD_set_ne false ZbG];exact V.tail t E
 .unfold Act.put;split<;>simp[V.asz]
 .unfold Act.put;split<;>simp[V.adef]
 .by_cases r:j=i
  .subst r
   have:n=va:=Yag (l.symm.trans m);subst this
   have xc:d<vj.tmps.size:=by
    rw[V.asz];have A:=Yaj.1 M n (YaB (i:=j) (by rw[YaK];simp[U,l]));simp only[R,Yba]at A;exact A
   simp[Act.put,R,upd,xc]
  .have xb:=T j I r
   have Y:va.dst≠some d:=λe=>r (Gs Q W U l m R e);rw[show upd g i z j=g j by simp[upd,r],<-V.a1 j n d W l xb R];unfold Act.put;split
   .rename_i c f
    have:c≠d:=λe=>Y ZeI;simp[YaU this]
   .rfl
 .have A:va.dst≠some t:=by
   refine E i va U m ?_;simp[x]
  rw[<-V.a2 t λj n W l I=>E j n W l (getD_set_true I)];unfold Act.put;split
  .rename_i c f
   have:c≠t:=λe=>A ZeI;simp[YaU this]
  .rfl
 .by_cases r:j=i
  .subst r
   have b:y=us:=Yag (N.symm.trans C);have O:G=F:=Yag (u.symm.trans hF);subst b;subst O;exact p
  .have xb:=T j I r
   have w:j<L.length:=Yaq (EM N) (DH Q);have l:L[j]? = some L[j]:=Yac w;have xg:=xf j y _ N l xb
   have xd:y.deps.map (upd g i z)=y.deps.map g:=by
    refine YaY λk B=>?_;have q:=(CN Q l).2.1 y N;simp only[Fm,Yam]at q;have A:=Yaj.1 q.1.1.1.1.2 k B;simp only[YaZ,Ycw]at A
    have xe:k≠i:=by
     rintro rfl;rcases A with A | A
     .exact r A.symm
     .exact xg ZdI
    simp[upd,xe]
   rw[xd];exact xa G (YaB u) _ _ _ K (V.facts j y G N u xb)
theorem eval_operands(E:Eg L sh=true){g:Nat->Value}(O:HInv L sh Rs a w0 vM g vj s)(m:L[n]? = some va)(C:sh[n]? = some us)
  (S:vM.getD n false=false) (Q:∀e∈Bz va,vM.getD e false=true):∀y∈va.op.operands,vj.eval y=Qu a g us.env y:=Zac
theorem wanted_of(E:Eg L sh=true){g:Nat->Value}(O:HInv L sh Rs a w0 vM g vj s)(m:L[n]? = some va)(C:sh[n]? = some us)
  (G:∀e∈Bz va,vM.getD e false=true):Region.wanted va (yielded L.toArray vj.tmps)=Fo va g:=Zad
theorem head_run(H:Eg L sh=true)(Z:HI L sh.length a.tmps.size=true)
  (xA:∀F∈Rs,∀R w1 w2,GS.Le w1 w2->F R w1->F R w2) (xp:StepsAt P sh Rs a w0 0 L sh Rs)
  (xt:∀g N,GS.Le w0 N->(∀(j:Nat) (y:Shape) (F:Fact),sh[j]? = some y->Rs[j]? = some F->F (y.deps.map g) N)->wpList P L.toArray vR (L.drop sh.length) (Fw g (L.take sh.length) 0 a) N.w) :
  ∀(f:Nat) (U:Array Bool) (g:Nat->Value) (a':Act) (N:GS),Jy U=f->HInv L sh Rs a w0 U g a' N->wpAny P .any L.toArray vR f U a' N.w:=by
 obtain⟨xb,xn⟩:=xp.at;intro f
 induction f with
 |zero=>
  intro U g a' N s xa
  have xe:∀j,j<L.length->U.getD j false=true:=λj W=>Zae
  refine Ni H 0 L.length U a' N.w (DH H) ZbG xa.size xe (λj W=>by simp[xa.size,W]) ?_
  exact Zaf
 |succ f ih=>
  intro U g a' N s xa;by_cases xk:∀j,j<sh.length->U.getD j false=true
  .have xI:f+1+sh.length=L.length:=Zag
   refine Ni H (f+1) sh.length U a' N.w (Yah _) xI xa.size xk xa.tail ?_;have:=xt g N xa.ext λj y F O hF=>xa.facts j y F O hF (xk j (EM O))
   have xG:Fw g (L.take sh.length) 0 a=a':=Zah
   rw[xG]at this;exact this
  .have xH:∃j,j<sh.length/\U.getD j false=false:=Ydi λxm=>xk λj W=>Zai
   obtain⟨j0,xL,xs⟩:=xH;refine⟨λX=>?_,λi K=>?_⟩
   .obtain ⟨k,_,C⟩:=Lc H xa.size j0 (Yaq xL (DH H)) xs
    rw[X]at C;cases C
   .obtain ⟨xg,o,r,xf⟩:=Nl H xa.size K
    have xr:i<sh.length:=Zaj
    have E:sh[i]? = some sh[i]:=Yac xr;obtain⟨F,hF,z⟩:=xn i o _ r E;rw[YaG]at z;have xo:i<U.size:=Zjf
    have xm:=(CN H r).2.1 _ E;simp only[Fm,Yam]at xm
    obtain⟨xu,xv⟩:=z g N (Qu a g sh[i].env) xa.ext (λx xw j W y G O hG=>by
      have:x=sh[i]:=Yag (xw.symm.trans E);subst this;exact xa.facts j y G O hG (Eo H xa.closed i _ o E r xf j W))
     (SF λp J=>by
      obtain⟨A,B,u,xc,xd⟩:=HH H E r J
      cases xi:sh[i].env.find? (λq=>q.1==p.1)with
      |none=>have:=Ycx.1 xi p J;simp at this
      |some q=>
       have m:=Ybt xi;have xM:q.1=p.1:=by simpa using YcQ xi
       obtain⟨_,Y,o2,xx,xq⟩:=HH H E r m;rw[xM]at xq;have:=Gs H Y B xx xc xq xd;simp only[Qu,xi,this])
     (λt M=>by
      have:sh[i].env.find? (λq=>q.1==t)=none:=Ycx.2 λp J=>by simpa using M p J
      simp only[Qu,this])
     (λ_=>rfl) (λ_=>rfl)
    have xN:=wanted_of H xa r E xf
    have xJ:∀v w2 b,(a'.put o.dst v)=b->GS.Le N w2->F (sh[i].deps.map (upd g i v)) w2->wpAny P .any L.toArray vR f (U.setIfInBounds i true) b w2.w:=λv w2 b I S xy=>by
     subst I;refine ih _ (upd g i v) _ _ ?_ (step_inv H Z xA xa r E hF xg xf S xy);have:=MN xo xg;omega
    unfold wpOp;have xx:L.toArray[i]? = some o:=by simpa using r
    rw[xx];show if Region.wanted o (yielded L.toArray a'.tmps)=true then _ else _
    rw[xN];split
    .rename_i hw
     exact Zjv
    .rename_i hw
     exact xJ undef N _ rfl (GS.Le.refl _) (xv (by simpa using hw))
theorem wp_region_ext{L:List Oper}{a:Act}(x:wpAny P .any L.toArray vR L.toArray.size (Array.replicate L.toArray.size false) a s.dr.w->vI)(sh:List Shape)(Rs:List Fact)(C:Eg L sh=true)(e:HI L sh.length a.tmps.size=true)
  (G:∀F∈Rs,∀J q A,GS.Le q A->F J q->F J A) (B:StepsAt P sh Rs a s.dr 0 L sh Rs)
  (E:∀g M,GS.Le s.dr M->(∀(j:Nat) (y:Shape) (F:Fact),sh[j]? = some y->Rs[j]? = some F->F (y.deps.map g) M)->wpList P L.toArray vR (L.drop sh.length) (Fw g (L.take sh.length) 0 a) M.w) :
  vI:=by
 refine x ?_;have Q:Jy (Array.replicate L.toArray.size false)=L.toArray.size:=by simp[Jy,List.filter_replicate]
 refine head_run C e G B E _ _ (λ_=>undef) a s.dr Q ?_
 have u:∀j,(Array.replicate L.toArray.size false).getD j false=false:=λj=>Zak
 exact⟨by simp,(λj o _ h=>by rw[u]at h;cases h),λt _=>u t,rfl,rfl,(λj o d _ _ h=>by rw[u]at h;cases h),λt _=>rfl,(λj y F _ _ h=>by rw[u]at h;cases h),GS.Le.refl _⟩
end
abbrev VFact:=Value->GS->Prop
def OpsKnown(H:List VFact)(i:Operand->Value)(w:GS):List (Nat×Nat)->Prop
 |[]=>True
 |(t,j)::r=>(∀F,H[j]? = some F->F (i (.tmp t)) w)/\OpsKnown H i w r
def UStep(P:Program)(H:List VFact)(a:Act)(W:GS)(o:Oper)(env:List (Nat×Nat))(F:VFact):Prop:=
 ∀(w:GS) (i:Operand->Value),GS.Le W w->OpsKnown H i w env ->
  (∀t,(∀p∈env,p.1≠t)->i (.tmp t)=a.tmps.getD t undef)->(∀v,i (.const v)=v)->(∀f,i (.func f)=.func (.func f) #[] #[]) ->
  match o.guard with
  |none=>OpStep P o i w λv M=>GS.Le w M/\F v M
  |some (j,b)=>∀O,(∀G,H[j]? = some G->G O w)->(O=.bool b->OpStep P o i w λv M=>GS.Le w M/\F v M)/\(O≠.bool b->F undef w)
def USteps(P:Program)(H:List VFact)(a:Act)(W:GS):List Oper->List (List (Nat×Nat))->List VFact->Prop
 |o::L,x::S,F::T=>UStep P H a W o x F/\USteps P H a W L S T
 |_,[],[]=>True
 |_,_,_=>False
def unF(F:VFact):Fact:=λJ w=>match J with | [v]=>F v w | _=>False
theorem usteps_steps{P:Program}{a:Act}{w0:GS}{Fs:List VFact}{sh:List Shape}{L0:List Oper}(r:Eg L0 sh=true)(xq:∀(k:Nat) (x:Shape),sh[k]? = some x->x.deps=[k]) :
  ∀{L:List Oper} {X:List (List (Nat×Nat))} {bs:List (List Nat)} {T:List VFact} {i:Nat},(∀k,L[k]? = L0[i+k]?)->(∀k,(Ge i X bs)[k]? = sh[i+k]?)->X.length=bs.length->USteps P Fs a w0 L X T ->
   StepsAt P sh (Fs.map unF) a w0 i L (Ge i X bs) (T.map unF)
 |L,[],[],[],i,_,_,_,_=>by cases L<;>exact trivial
 |L,[],[],_::_,i,_,_,_,h=>by cases L<;>exact h.elim
 |L,[],_::_,T,i,_,_,K,h=>by simp at K
 |L,_::_,[],T,i,_,_,K,h=>by simp at K
 |[],_::_,_::_,T,i,_,_,_,h=>by cases T<;>exact h.elim
 |_::_,_::_,_::_,[],i,_,_,_,h=>h.elim
 |o::L,e::X,b::bs,F::T,i,z,H,K,h=>Zal
theorem wp_region_u{L:List Oper}(A:wpAny P .any L.toArray vR L.toArray.size (Array.replicate L.toArray.size false) vj s.dr.w->vI)(o:List (List (Nat×Nat)))(u:List (List Nat))(H:List VFact)
  (n:(o.length==u.length&&o.length==H.length)=true) (B:Eg L (Ge 0 o u)=true) (q:HI L o.length vj.tmps.size=true)
  (X:∀F∈H,∀v E O,GS.Le E O->F v E->F v O) (t:USteps P H vj s.dr L o H)
  (W:∀(g:Nat->Value) (M:GS),GS.Le s.dr M->(∀(j:Nat) (F:VFact),H[j]? = some F->F (g j) M)->wpList P L.toArray vR (L.drop o.length) (Fw g (L.take o.length) 0 vj) M.w) :
  vI:=by
 simp only[Yam,Ycw]at n
 have Y:∀(o:List (List (Nat×Nat))) (u:List (List Nat)) (i:Nat),o.length=u.length->(Ge i o u).length=o.length:=by
  intro o
  induction o with
  |nil=>intro u i _;cases u<;>rfl
  |cons e o K=>
   intro u i h
   cases u with
   |nil=>simp at h
   |cons b u=>simp[Ge,K u (i+1) Zdf]
 have I:=Y o u 0 n.1;refine wp_region_ext A (Ge 0 o u) (H.map unF) B (by rw[I];exact q) ?_ ?_ ?_
 .intro F hF J E O a h
  obtain⟨G,S,rfl⟩:=YaA.1 hF;unfold unF at *;split at h
  .rename_i v;exact X G S v E O a h
  .exact h.elim
 .exact usteps_steps B (λk x C=>by have:=(KK C).1;rwa [YaG]at this) (λk=>by rw[YaG]) (λk=>by rw[YaG]) n.1 t
 .intro g M Q p
  rw[I];refine W g M Q λj F hF=>?_
  have V:j<(Ge 0 o u).length:=by
   rw[I];have:=(Yae.1 hF).1;omega
  have N:(Ge 0 o u)[j]? = some (Ge 0 o u)[j]:=Yac V;have:=p j _ (unF F) N (by rw[Yau,hF];rfl);rw[(KK N).1]at this;simpa[unF]using this
def Stab(F:VFact):Prop:=∀v g q,GS.Le g q->F v g->F v q
def StabAll:List VFact->Prop
 |[]=>True
 |F::r=>Stab F/\StabAll r
theorem StabAll.mem:∀{H:List VFact},StabAll H->∀F∈H,Stab F
 |[],_,F,h=>by cases h
 |G::r,h,F,hF=>Zam
theorem wp_region_v{L:List Oper}{w:GS}(x:wpAny P .any L.toArray vR L.toArray.size (Array.replicate L.toArray.size false) vj w.dr.w->vI)(o:List (List (Nat×Nat)))(u:List (List Nat))(H:List VFact)
  (n:(o.length==u.length&&o.length==H.length)=true) (C:Eg L (Ge 0 o u)=true) (e:HI L o.length vj.tmps.size=true) (stab:StabAll H) (steps:USteps P H vj w.dr L o H)
  (fin:∀(g:Nat->Value) (M:GS),GS.Le w.dr M->(∀(j:Nat) (F:VFact),H[j]? = some F->F (g j) M)->wpList P L.toArray vR (L.drop o.length) (Fw g (L.take o.length) 0 vj) M.w) :
  vI:=
 wp_region_u x o u H n C e (λF hF=>stab.mem F hF) steps fin
end RegG
theorem Ka(s:GS):GS.Le s s.dr:=GS.Le.heap ((Ext.refl _).drew) rfl
structure OD where
 rel:GS->Value->Prop
 blk:GS->Value->Nat->Prop
 lt:∀{s:GS} {v:Value} {b:Nat},rel s v->blk s v b->b<s.w.heap.size
 keep:∀{s s':GS} {v:Value},rel s v->GS.Chg s s'->(∀b,blk s v b->s'.w.heap[b]? = s.w.heap[b]? /\ ∀k,s'.S b k↔s.S b k)->rel s' v/\∀b,blk s' v b->blk s v b
inductive AV
 |d (x:D)
 |ptr (id off:Nat)
 |own (id:Nat)
 |fn (f:FuncId) (caps:List Nat)
instance:Inhabited AV:=⟨.d CC⟩
inductive Ow
 |dead
 |var (T:TypeId) (cells:List AV)
 |row (T:TypeId) (sz:Nat) (rows:List (List D))
 |obj (O:OD)
 |pin (l:List (Value×AV))
instance:Inhabited Ow:=⟨.dead⟩
structure AS where
 fr:List (Nat×AV)
 hp:List Ow
def Ch:List (Nat×AV)->Nat->Option AV
 |[],_=>none
 |(a,v)::r,t=>bif Nat.beq a t then some v else Ch r t
theorem Ff:∀{l:List (Nat×AV)} {t:Nat} {I:AV},Ch l t=some I->(t,I)∈l
 |[],_,_,h=>by cases h
 |(a,v)::r,t,I,h=>by
  unfold Ch at h
  cases E:Nat.beq a t with
  |true=>
   rw[E]at h;have b:a=t:=Yao E;have y:v=I:=Yag h;subst b;subst y;exact Ybp
  |false=>
   rw[E]at h;exact Ybo _ (Ff h)
def DQ:Value->Option Nat
 |.pointer (some a)=>some a.block
 |.slice (some a) _ _=>some a.block
 |_=>none
def fnV(f:FuncId)(J:List Value):Value:=bif Nat.blt f 1000000 then .func (.func f) #[] J.toArray else .func (.func (f-1000000)) J.toArray #[]
def AVr(m:Nat)(X:Nat->Value)(s:GS):AV->Value->Prop
 |.d x,v=>x.rel s v
 |.ptr id off,v=>id<m/\∃b,X id=.pointer (some ⟨b,0,none⟩)/\v=.pointer (some ⟨b,off,none⟩)
 |.own id,v=>id<m/\v=X id
 |.fn f Y,v=>(∀i∈Y,i<m)/\v=fnV f (Y.map X)
variable{f:AV}
theorem AVr.chg{m:Nat}{ρ:Nat->Value}{s s':GS}{v:Value}(h:AVr m ρ s f v)(F:GS.Chg s s'):AVr m ρ s' f v:=by
 cases f with
 |d x=>exact x.st h F
 |ptr id off=>exact h
 |own id=>exact h
 |fn q Y=>exact h
theorem AVr.mono{m n:Nat}{v:Value}(h:AVr m vi s f v)(C:m<=n)(F:∀i,i<m->ua i=vi i):AVr n ua s f v:=by
 cases f with
 |d x=>exact h
 |ptr id off=>
  obtain⟨q,b,A,K⟩:=h;exact⟨Yaq q C,b,(F id q).trans A,K⟩
 |own id=>exact⟨Yaq h.1 C,h.2.trans (F id h.1).symm⟩
 |fn B Y=>exact⟨λi J=>Yaq (h.1 i J) C,by rw[h.2,YaY λi J=>(F i (h.1 i J)).symm]⟩
def OwR(base m:Nat)(X:Nat->Value)(s:GS)(i:Nat):Ow->Prop
 |.dead=>True
 |.var T cells=>∃(b:Nat) (f:Array Value),X i=.pointer (some ⟨b,0,none⟩)/\base<=b/\s.w.heap[b]? = some (.cells f T (0,0))/\f.size=cells.length/\T≠335/\(∀k,¬s.S b k)/\∀(k:Nat) av,cells[k]? = some av->∃u:Value,f[k]? = some u/\u.oneCell'=true/\AVr m X s av u
 |.row T q A=>∃h:List Value,s.w.ownsRow base T q (X i) A.length h/\T≠335/\0<q/\(∀b,DQ (X i)=some b->∀k,s.S b k↔k<A.length*q)/\∀k,k<A.length->(A.getD k []).length=q/\∀j,j<q->∃u,h[k*q+j]? = some u/\u.oneCell'=true/\(DM (A.getD k []) j).rel s u
 |.obj O=>O.rel s (X i)
 |.pin l=>∀p∈l,AVr m X s p.2 p.1
def OwB(s:GS)(v:Value):Ow->Nat->Prop
 |.dead,_=>False
 |.var _ _,b=>DQ v=some b
 |.row _ _ _,b=>DQ v=some b
 |.obj O,b=>O.blk s v b
 |.pin _,_=>False
variable{vt:Ow}
theorem OwR.blk_lt0{base m:Nat}{i:Nat}(h:OwR base m vi s i vt){b:Nat}(E:OwB s (vi i) vt b):b<s.w.heap.size:=by
 cases vt with
 |dead=>exact E.elim
 |pin l=>exact E.elim
 |obj O=>exact O.lt h E
 |var T cells=>
  obtain⟨g,f,q,A,K,_⟩:=h;replace E:DQ (vi i)=some b:=E;rw[q]at E;cases E;exact Bw K
 |row T C F=>
  obtain⟨G,⟨q,A⟩,_⟩:=h;replace E:DQ (vi i)=some b:=E;rcases A with⟨B,_⟩ | ⟨g,cap,cur,B,e2,e3,_⟩
  .rw [B]at E;cases E
  .rw [B]at E;cases E;exact Bw e3
theorem OwB.keep(h:OwR n b vi s T vt)(F:GS.Chg s vr)(E:∀m,OwB s (vi T) vt m->vr.w.heap[m]? = s.w.heap[m]? /\ ∀k,vr.S m k↔s.S m k)(C:OwB vr (vi T) vt m):OwB s (vi T) vt m:=by
 cases vt with
 |obj O=>exact(O.keep h F E).2 m C
 |_=>exact C
theorem OwB.le{base m:Nat}{ρ:Nat->Value}{s s':GS}{i:Nat}{o:Ow}(h:OwR base m ρ s i o)(I:GS.Le s s'){b:Nat}(C:OwB s' (ρ i) o b):OwB s (ρ i) o b:=
 OwB.keep h I.chg (λc F=>have O:=h.blk_lt0 F;⟨I.ext.block O,λk=>⟨I.old c k O,I.up c k⟩⟩) C
theorem OwR.le{base m:Nat}{ρ:Nat->Value}{s s':GS}{i:Nat}{o:Ow}(h:OwR base m ρ s i o)(I:GS.Le s s'):OwR base m ρ s' i o:=by
 cases o with
 |dead=>trivial
 |var T cells=>
  obtain⟨b,f,q,A,K,Y,n,M,S⟩:=h;refine⟨b,f,q,A,(I.ext.block (Bw K)).trans K,Y,n,λk B=>M k (I.old b k (Bw K) B),λk Q B=>?_⟩;obtain⟨u,y,X,Z⟩:=S k Q B;exact⟨u,y,X,Z.chg I.chg⟩
 |row T L N=>
  obtain⟨V,⟨q,A⟩,K,Y,n,M⟩:=h;refine⟨V,⟨q,?_⟩,K,Y,λb E k=>?_,λk B=>⟨(M k B).1,λj W=>?_⟩⟩
  .rcases A with A | ⟨g,cap,cur,J,e2,e3,e4⟩
   .exact .inl A
   .exact .inr ⟨g,cap,cur,J,e2,(I.ext.block (Bw e3)).trans e3,e4⟩
  .have C:b<s.w.heap.size:=by
    rcases A with⟨J,_⟩ | ⟨g,cap,cur,J,e2,e3,e4⟩
    .rw [J]at E;cases E
    .rw [J]at E;cases E;exact Bw e3
   exact⟨λB=>(n b E k).1 (I.old b k C B),λB=>I.up b k ((n b E k).2 B)⟩
  .obtain ⟨u,y,X,Z⟩:=(M k B).2 j W
   exact⟨u,y,X,(DM _ j).st Z I.chg⟩
 |obj O=>exact(O.keep h I.chg λc F=>have C:=O.lt h F;⟨I.ext.block C,λk=>⟨I.old c k C,I.up c k⟩⟩).1
 |pin l=>exact λp G=>(h p G).chg I.chg
def HpOk(base:Nat)(X:Nat->Value)(s:GS)(G:List Ow):Prop:=∀i o,G[i]? = some o->OwR base G.length X s i o
theorem HpOk.le{ρ:Nat->Value}{s s':GS}{hp:List Ow}(h:HpOk n ρ s hp)(I:GS.Le s s'):HpOk n ρ s' hp:=λi o J=>(h i o J).le I
def HV(hp:List Ow):AV->Option D
 |.d x=>some x
 |.own id=>match hp[id]? with
  |some (.row T s A)=>some (slD T s A)
  |_=>none
 |.ptr _ _=>none
 |.fn _ _=>none
variable{r:D}
theorem Ex{base:Nat}{ρ:Nat->Value}{hp:List Ow}{av:AV}{v:Value}(M:HpOk base ρ s hp)(h:AVr hp.length ρ s av v)(C:HV hp av=some r):r.rel s v:=by
 cases av with
 |d y=>cases C;exact h
 |ptr id off=>cases C
 |fn f S=>cases C
 |own id=>
  obtain rfl:v=ρ id:=h.2
  replace C:(match hp[id]? with
   |some (.row T F J)=>some (slD T F J)
   |_=>none)=some r:=C
  split at C
  .rename_i T F J a
   cases C;obtain⟨L,⟨q,A⟩,K,Y,n,I⟩:=M id _ a;rcases A with⟨b,G⟩ | ⟨g,cap,cur,b,G,e3,e4,e5,e6,e7⟩
   .rw [b]
    exact⟨none,0,by rw[G],by omega,by omega,λE=>by omega⟩
   .rw [b]
    refine⟨_,cap,rfl,e4,by simpa[maxLen]using e5,λE=>⟨g,0,rfl,λk B=>⟨(I k B).1,cur,(0,0),e3,λj W=>?_⟩⟩⟩;rw[(I k B).1]at W;obtain⟨u,N,Q,X⟩:=(I k B).2 j W
    have O:k*F+j<J.length*F:=by
     have:(k+1)*F<=J.length*F:=YaC F B;exact Zhf
    refine⟨by rw[YaG];exact(n g (by rw[b];rfl) _).2 O,u,?_,Q,X⟩;rw[YaG,<-N,<-e7,YaK,Yan O];simp
  .cases C
def AS.arg(σ:AS):Operand->AV
 |.tmp t=>(Ch σ.fr t).getD (.d CC)
 |.const v=>.d (ex v)
 |.global g=>.d (ex (.pointer (some ⟨g,0,none⟩)))
 |.func f=>.d (ex (.func (.func f) #[] #[]))
def AS.put(σ:AS)(dst:Option Tmp)(r:AV):AS:=
 match dst with
 |some d=>{ σ with fr:=(d,r)::σ.fr }
 |none=>σ
structure GS.LeX(mine:Nat->Prop)(s s':GS):Prop where
 os:s'.w.os=s.w.os
 tape:s'.w.tape=s.w.tape
 output:s'.w.output=s.w.output
 block:∀k,k<s.w.heap.size->¬mine k->s'.w.heap[k]? = s.w.heap[k]?
 chg:GS.Chg s s'
 old:∀b k,b<s.w.heap.size->¬mine b->s'.S b k->s.S b k
 tag:∀b,b<s.w.heap.size->s'.tag b=s.tag b
 ok:s.Ok->s'.Ok
theorem GS.LeX.size{mine:Nat->Prop}{s s':GS}(h:GS.LeX mine s s'):s.w.heap.size<=s'.w.heap.size:=h.chg.size
theorem GS.LeX.refl(l:Nat->Prop)(s:GS):GS.LeX l s s:=⟨rfl,rfl,rfl,λ_ _ _=>rfl,GS.Chg.refl s,λ_ _ _ _ h=>h,λ_ _=>rfl,λh=>h⟩
theorem GS.LeX.trans{mine:Nat->Prop}{a b c:GS}(h:GS.LeX mine a b)(k:GS.Le b c):GS.LeX mine a c:=
 ⟨k.ext.os.trans h.os,k.ext.tape.trans h.tape,k.ext.output.trans h.output,λx C q=>(k.ext.block (Yaq C h.size)).trans (h.block x C q),h.chg.trans k.chg,λx j C q V=>h.old x j C q (k.old x j (Yaq C h.size) V),λx C=>(k.tag x (Yaq C h.size)).trans (h.tag x C),λV=>k.ok (h.ok V)⟩
theorem GS.LeX.le{s s':GS}{mine:Nat->Prop}(x:∀b,¬mine b)(h:GS.LeX mine s s'):GS.Le s s':=
 ⟨⟨h.os,h.tape,h.output,h.size,λk B=>h.block k B (x k)⟩,h.chg.up,λb k E=>h.old b k E (x b),h.tag,h.ok⟩
structure An where
 g:GS
 mine:Nat->Prop
 df:List Deferred
theorem GS.LeX.turn{s0:An}{s s':GS}(h:GS.LeX s0.mine s0.g s){g:Nat}(T:s0.mine g\/s0.g.w.heap.size<=g)(q:s'.w.os=s.w.os)(A:s'.w.tape=s.w.tape)(K:s'.w.output=s.w.output)(Y:∀b,b<s.w.heap.size->b≠g->s'.w.heap[b]? = s.w.heap[b]? /\ ∀k,s'.S b k->s.S b k)(F:GS.Chg s s')(L:∀b,b<s.w.heap.size->s'.tag b=s.tag b)(C:s.Ok->s'.Ok):GS.LeX s0.mine s0.g s':=
 ⟨q.trans h.os,A.trans h.tape,K.trans h.output,λk B x=>(Y k (Yaq B h.size) λe=>by subst e;exact T.elim x (λV=>absurd B ZbG)).1.trans (h.block k B x),h.chg.trans F,λb k E x Z=>h.old b k E x ((Y b (Yaq E h.size) λe=>by subst e;exact T.elim x (λV=>absurd E ZbG)).2 k Z),λb E=>(L b (Yaq E h.size)).trans (h.tag b E),λV=>C (h.ok V)⟩
structure StI(s0:An)(n:Nat)(σ:AS)(a:Act)(s:GS)(ρ:Nat->Value):Prop where
 le:GS.LeX s0.mine s0.g s
 ok:s.Ok
 fr:∀t av,Ch σ.fr t=some av->AVr σ.hp.length ρ s av (a.tmps.getD t undef)
 sz:a.tmps.size=n
 df:a.defers=s0.df
 hp:HpOk 0 ρ s σ.hp
 sep:∀i j o o',i≠j->σ.hp[i]? = some o->σ.hp[j]? = some o'->∀b,OwB s (ρ i) o b->¬OwB s (ρ j) o' b
 own:∀i o b,σ.hp[i]? = some o->OwB s (ρ i) o b->s0.mine b\/s0.g.w.heap.size<=b
def St(s0:An)(n:Nat)(c:AS)(a:Act)(w:World):Prop:=∃(s:GS) (X:Nat->Value),s.w=w/\StI s0 n c a s X
theorem StI.arg{s0:An}{σ:AS}(h:StI s0 n σ vj s vi)(x:Operand):AVr σ.hp.length vi s (σ.arg x) (vj.eval x):=by
 cases x with
 |tmp t=>
  show AVr σ.hp.length vi s ((Ch σ.fr t).getD (.d CC)) (vj.tmps.getD t undef)
  cases I:Ch σ.fr t with
  |none=>exact trivial
  |some q=>exact h.fr t q I
 |const v=>exact rfl
 |global g=>exact rfl
 |func f=>exact rfl
theorem Da(t u:Nat)(I:AV)(l:List (Nat×AV)):Ch ((t,I)::l) u=if t=u then some I else Ch l u:=by
 show(bif Nat.beq t u then some I else Ch l u)=_
 cases E:Nat.beq t u with
 |true=>rw[Yan (Yao E)];rfl
 |false=>rw[Yai (YaI E)];rfl
theorem StI.put{s0:An}{σ:AS}{a:Act}{s s':GS}(h:StI s0 n σ a s vi)(I:GS.Le s s'){dst:Option Tmp}(e:∀d,dst=some d->d<n){v:Value}{r:AV}(V:AVr σ.hp.length vi s' r v):StI s0 n (σ.put dst r) (a.put dst v) s' vi:=by
 refine⟨h.le.trans I,I.ok h.ok,λt A L=>?_,?_,?_,?_,?_,?_⟩
 .cases dst with
  |none=>exact(h.fr t A L).chg I.chg
  |some d=>
   simp only[AS.put,Da]at L;simp only[Act.put];by_cases P:d=t
   .exact Zaw
   .rw [Yai P]at L
    have:=(h.fr t A L).chg I.chg;exact ZhJ
 .unfold Act.put;split<;>simp[h.sz]
 .unfold Act.put;split<;>simp[h.df]
 .cases dst<;>exact h.hp.le I
 .have key:∀i j o q,i≠j->σ.hp[i]? = some o->σ.hp[j]? = some q->∀b,OwB s' (vi i) o b->¬OwB s' (vi j) q b:=λi j o q B J W b E T=>h.sep i j o q B J W b (OwB.le (h.hp i o J) I E) (OwB.le (h.hp j q W) I T)
  cases dst<;>exact key
 .have key:∀i o b,σ.hp[i]? = some o->OwB s' (vi i) o b->s0.mine b\/s0.g.w.heap.size<=b:=λi o b J E=>h.own i o b J (OwB.le (h.hp i o J) I E)
  cases dst<;>exact key
structure Quiet(P:Program)(hp:List Ow)(o:Oper)(arg:Operand->AV)(r:AV):Prop where
 run:∀(base:Nat) (s:GS) (ρ:Nat->Value) (ev:Operand->Value),s.Ok->base<=s.w.heap.size->HpOk base ρ s hp->(∀x,x∈o.op.operands->AVr hp.length ρ s (arg x) (ev x)) ->
  RegG.OpStep P o ev s λv s'=>GS.Le s s'/\AVr hp.length ρ s' r v
theorem Cd{o:Oper}{ev:Operand->Value}{R:Value->GS->Prop}{v:Value}(h:(execOp ev o).run P s.w=.ok (.value v) s.w)(B:R v s):RegG.OpStep P o ev s R:=by
 unfold RegG.OpStep;rw[h];exact⟨s,rfl,B⟩
theorem Jf{ev:Operand->Value}{R:Value->GS->Prop}{v:Value}(h:(execOp ev va).run P s.w=.ok (.value v) w)(s':GS)(c:s'.w=w)(B:R v s'):RegG.OpStep P va ev s R:=by
 unfold RegG.OpStep;rw[h];exact⟨s',c,B⟩
structure Tab(P:Program)(t:TypeId)(d:TypeDesc)(n bytes:Nat)(z:Value):Prop where
 und:P.underlying t=some d
 inf:(P.info? t).map (λi=>(i.zero,i.size,i.bytes))=some (some z,n,bytes)
theorem Tab.info(h:Tab P t d n b z):∃i,P.info? t=some i/\i.zero=some z/\i.size=n/\i.bytes=b:=by
 have:=h.inf
 cases J:P.info? t with
 |none=>rw[J]at this;cases this
 |some i=>
  rw[J]at this;simp only[Ydt,Yde,YdT]at this;exact⟨i,rfl,this.1,this.2.1,this.2.2⟩
theorem Tab.run_size(h:Tab P t d n b z)(w:World):(sizeOf t).run P w=.ok n w:=by
 obtain⟨i,q,_,A,_⟩:=h.info;simp[sizeOf,typeInfo,q,A]
theorem Tab.run_zero(h:Tab P t d n b z)(w:World):(zeroValue t).run P w=.ok z w:=by
 obtain⟨i,q,A,_⟩:=h.info;simp[zeroValue,typeInfo,q,A]
def Fa:TypeDesc->Bool
 |.struct _ |.array _ _=>true
 |_=>false
theorem Tab.run_agg(h:Tab P t d n b z)(w:World):(isAgg t).run P w=.ok (Fa d) w:=by
 unfold isAgg;rw[Sem.run_bind,run_underlying h.und w];cases d<;>simp[Fa]
theorem exD{u v:Value}(h:AVr n vi s (.d (ex u)) v):v=u:=h
section
variable {P:Program} {hp:List Ow} {o:Oper} {arg:Operand->AV}
theorem Quiet.move(E:o.op=.move x\/o.op=.assign x)(C:arg x=f):Quiet P hp o arg f:=by
 subst C;refine⟨λbase s X i A z Z h=>?_⟩;rcases E with E | E
 all_goals
  have q:=h x Zdm;exact Cd (v:=i x) (by simp[execOp,E]) ⟨GS.Le.refl s,q⟩
theorem CM {a b v : Value} (G : o.op = .binOp vW t x y U) (C : arg x = .d (ex a)) (N : arg y = .d (ex b)) (V : ∀ w, (do eqGuard vW t x y a b; binOp vW t a b : Sem Value).run P w = .ok v w) : Quiet P hp o arg (.d (ex v)) := by
 refine⟨λbase s X i F z Z h=>?_⟩;have q:=h x Zef;have A:=h y Zef;rw[C]at q;rw[N]at A;have B:i x=a:=q;have E:i y=b:=A;have:=V s.w;refine Cd (v:=v) ?_ ⟨GS.Le.refl s,rfl⟩;simp only[execOp,G,B,E,Sem.run_bind,this,Result.andThen_ok,Sem.run_pure]
theorem Quiet.add{T U:TypeId}(E:o.op=.binOp .add T x y U)(C:arg x=.d (ex (.int .i64 a)))(N:arg y=.d (ex (.int .i64 j)))(q:-9223372036854775808<=a+j)(A:a+j<=9223372036854775807):Quiet P hp o arg (.d (ex (.int .i64 (a+j)))):=
 CM E C N λw=>by
  have e:IntKind.i64.wrap (a+j)=a+j:=IntWalk.i64_in _ ZbG;exact ZjC
theorem Quiet.sub(E:o.op=.binOp .sub t x y U)(C:arg x=.d (ex (.int .i64 a)))(N:arg y=.d (ex (.int .i64 j)))(q:-9223372036854775808<=a-j)(A:a-j<=9223372036854775807):Quiet P hp o arg (.d (ex (.int .i64 (a-j)))):=
 CM E C N λw=>by
  have e:IntKind.i64.wrap (a-j)=a-j:=IntWalk.i64_in _ ZbG;exact ZjC
theorem Quiet.mul{T U:TypeId}(E:o.op=.binOp .mul T x y U)(C:arg x=.d (ex (.int .i64 a)))(N:arg y=.d (ex (.int .i64 j)))(q:-9223372036854775808<=a*j)(A:a*j<=9223372036854775807):Quiet P hp o arg (.d (ex (.int .i64 (a*j)))):=
 CM E C N λw=>by
  have e:IntKind.i64.wrap (a*j)=a*j:=IntWalk.i64_in _ ZbG;exact ZjC
def YJ:BinOp->Int->Int->Option Bool
 |.eql,a,b=>some (a==b)
 |.neq,a,b=>some (a != b)
 |.lss,a,b=>some (decide (a<b))
 |.leq,a,b=>some (decide (a<=b))
 |.gtr,a,b=>some (decide (a>b))
 |.geq,a,b=>some (decide (a ≥ b))
 |_,_,_=>none
theorem Pt{c:Bool}(E:o.op=.binOp vW t x y U)(C:arg x=.d (ex (.int i a)))(N:arg y=.d (ex (.int i j)))(F:YJ vW a j=some c):Quiet P hp o arg (.d (ex (.bool c))):=
 CM E C N λw=>by
  cases vW<;>simp[YJ]at F<;>subst F<;>simp[eqGuard,binOp,Op.intCmp]
theorem Quiet.not{a:Bool}(E:o.op=.unOp .not t x)(C:arg x=.d (ex (.bool a))):Quiet P hp o arg (.d (ex (.bool (!a)))):=by
 refine⟨λbase s X i A z Z h=>?_⟩;have q:=h x Zdm;rw[C]at q;have b:i x=.bool a:=q;exact Cd (v:=.bool (!a)) (by simp[execOp,E,b,Op.unary]) ⟨GS.Le.refl s,rfl⟩
theorem Qh(E:o.op=.pick x y vS)(C:arg y=f)(F:arg x=.d (ex (.bool true))):Quiet P hp o arg f:=by
 subst C;refine⟨λbase s X i B z Z h=>?_⟩;have q:=h x Zdm;have A:=h y Zdm;rw[F]at q;have b:i x=.bool true:=q;exact Cd (v:=i y) (by simp[execOp,E,b,asBool]) ⟨GS.Le.refl s,A⟩
theorem Qi(E:o.op=.pick x y vS)(N:arg vS=f)(F:arg x=.d (ex (.bool false))):Quiet P hp o arg f:=by
 subst N;refine⟨λbase s X i C z Z h=>?_⟩;have q:=h x Zdm;have A:=h vS Zdm;rw[F]at q;have b:i x=.bool false:=q;exact Cd (v:=i vS) (by simp[execOp,E,b,asBool]) ⟨GS.Le.refl s,A⟩
theorem SW{k G:IntKind}(E:o.op=.convert t U x)(C:arg x=.d (ex (.int k a)))(p:Tab P t d n b z)(F:Tab P U (.int G) T m u):Quiet P hp o arg (.d (ex (.int G (G.wrap a)))):=by
 refine⟨λbase s X i B I Z h=>?_⟩;have q:=h x Zdm;rw[C]at q;have A:i x=.int k a:=q;refine Cd (v:=.int G (G.wrap a)) ?_ ⟨GS.Le.refl s,rfl⟩;simp[execOp,E,A,convert,run_underlying p.und,run_underlying F.und,Conv.intToInt]
theorem Quiet.len{e n b T F:Nat}(I:o.op=.call { callee:=.builtin .len,args:=#[x],argTypes:=#[t] })(C:HV hp (arg x)=some (slD T F vm))(L:Tab P t (.slice e) n b z):Quiet P hp o arg (.d (ex (.int .i64 vm.length))):=by
 refine⟨λbase s X i G J Z h=>?_⟩;have q:=Ex Z (h x (by rw[I];simp[Op.operands,Call.operands])) C;obtain⟨A,c,E,B⟩:=q;refine Cd (v:=.int .i64 vm.length) ?_ ⟨GS.Le.refl s,rfl⟩;simp[execOp,I,resolve,invoke,builtin,E,Builtin.len_,run_underlying L.und,goInt]
theorem Quiet.index(Z:o.op=.indexAddr t x y)(E:HV hp (arg x)=some (slD k g vm))(N:arg y=.d (ex (.int i a)))(L:Tab P t (.slice n) b T z)(G:Tab P n d m c u)(e:m=g)(M:0<=a)(J:a<vm.length):Quiet P hp o arg (.d (Fg k (vm.getD a.toNat []))):=by
 refine⟨λbase s X O W j f h=>?_⟩;have q:=Ex f (h x (by rw[Z];simp[Op.operands])) E;have B:=h y (by rw[Z];simp[Op.operands]);rw[N]at B;have S:O y=.int i a:=B;obtain⟨A,C,I,K,Y,Q⟩:=q;obtain⟨F,p,rfl,V⟩:=Q ZbG;subst e;refine Cd (v:=.pointer (some ⟨F,p+a.toNat*m,none⟩)) ?_ ⟨GS.Le.refl s,F,_,rfl,(V a.toNat ZbG).2⟩;simp[execOp,Z,I,S,Instr.indexAt,asIntOf,run_underlying L.und,M,J,G.run_size,Addr.add_lit]
theorem Ob(Q:o.op=.indexAddr t x y)(C:arg x=.d (Fg k v))(N:arg y=.d (ex (.int i a)))(L:Tab P t (.array g n) b T z)(E:Tab P n d m c u)(G:0<=a)(J:a<g):Quiet P hp o arg (.d (Fg k (v.drop (a.toNat*m)))):=by
 refine⟨λbase s X I O S Z h=>?_⟩;have q:=h x Zdt;have A:=h y Zdt;rw[C]at q;rw[N]at A;have M:I y=.int i a:=A;obtain⟨B,p,F,K⟩:=q;refine Cd (v:=.pointer (some ⟨B,p+a.toNat*m,none⟩)) ?_ ⟨GS.Le.refl s,B,_,rfl,K.drop _⟩;exact ZjD
theorem Oa(Q:o.op=.indexAddr t x y)(C:arg x=.ptr g vk)(N:arg y=.d (ex (.int i a)))(L:Tab P t (.array k n) b T z)(E:Tab P n d m c u)(G:0<=a)(J:a<k):Quiet P hp o arg (.ptr g (vk+a.toNat*m)):=by
 refine⟨λbase s X I O V Z h=>?_⟩;have q:=h x Zdt;have A:=h y Zdt;rw[C]at q;rw[N]at A;have M:I y=.int i a:=A;obtain⟨S,B,K,F⟩:=q;refine Cd (v:=.pointer (some ⟨B,vk+a.toNat*m,none⟩)) ?_ ⟨GS.Le.refl s,S,B,K,rfl⟩;exact ZjD
theorem Oc(G:o.op=.fieldAddr t x n)(C:arg x=.d (Fg k v))(I:Tab P t (.struct vV) b T z)(E:vV[n]? = some ub)(a:Tab P ub.type d m c u)(B:m≠0):Quiet P hp o arg (.d (Fg k (v.drop ub.offset))):=by
 refine⟨λbase s X i F J Z h=>?_⟩;have q:=h x Zef;rw[C]at q;obtain⟨g,p,A,K⟩:=q;refine Cd (v:=.pointer (some ⟨g,p+ub.offset,none⟩)) ?_ ⟨GS.Le.refl s,g,_,rfl,K.drop _⟩;simp[execOp,G,A,Instr.fieldAt,Instr.sureAddr,run_underlying I.und,E,fieldPlace,a.run_size,B,Addr.add_lit]
theorem WL(G:o.op=.fieldAddr t x n)(C:arg x=.ptr k g)(I:Tab P t (.struct vV) b T z)(p:vV[n]? = some ub)(a:Tab P ub.type d m c u)(E:m≠0):Quiet P hp o arg (.ptr k (g+ub.offset)):=by
 refine⟨λbase s X i F L Z h=>?_⟩;have q:=h x Zef;rw[C]at q;obtain⟨J,A,K,B⟩:=q;refine Cd (v:=.pointer (some ⟨A,g+ub.offset,none⟩)) ?_ ⟨GS.Le.refl s,J,A,K,rfl⟩;simp[execOp,G,B,Instr.fieldAt,Instr.sureAddr,run_underlying I.und,p,fieldPlace,a.run_size,E,Addr.add_lit]
theorem KL(L:Tab P t d n b z)(e:Fa d=true)(g p:Nat)(f:Nat->Value)(h:∀j,j<n->w.cell? ⟨g,p+j,none⟩=some (f j)):(loadVar t ⟨g,p,none⟩).run P w=.ok (.agg ((List.range n).map f).toArray) w:=by
 have:=run_loadCells (P:=P) w ⟨g,p,none⟩ n f λj W=>by rw[Addr.add_lit];exact h j W
 simp[loadVar,L.run_agg,e,L.run_size,this]
theorem Ls(J:o.op=.load t x)(C:arg x=.d (Fg T v))(L:Tab P t d n b z)(e:Fa d=true)(E:n<=v.length):Quiet P hp o arg (.d (AQ (v.take n))):=by
 refine⟨λbase s X i I M Z h=>?_⟩;have q:=h x (by rw[J];simp[Op.operands]);rw[C]at q;obtain⟨g,p,A,K⟩:=q
 have F:∀j,∃u,j<n->s.w.cell? ⟨g,p+j,none⟩=some u/\u.oneCell'=true/\(DM v j).rel s u:=λj=>by
  by_cases W:j<n
  .obtain ⟨u, Y⟩:=K.cell (k:=j) ZbG
   exact⟨u,λ_=>Y⟩
  .exact ZjE
 obtain⟨f,G⟩:∃f:Nat->Value,∀j,j<n->s.w.cell? ⟨g,p+j,none⟩=some (f j)/\(f j).oneCell'=true/\(DM v j).rel s (f j):=⟨λj=>(F j).choose,λj W=>(F j).choose_spec W⟩;have V:=KL L e g p f λj W=>(G j W).1;refine Cd (v:=.agg ((List.range n).map f).toArray) ?_ ⟨GS.Le.refl s,_,rfl,by simp;omega,λk B=>?_⟩
 .simp [execOp,J,A,Instr.loadAt,Instr.sureAddr,V]
 .rw [YaO]at B
  have N:k<n:=by omega
  rw[Lk N];exact⟨f k,by simp[N],(G k N).2⟩
theorem NY(I:o.op=.load t x)(C:arg x=.d (Fg T v))(L:Tab P t d n b z)(e:Fa d=false)(B:0<v.length):Quiet P hp o arg (.d (DM v 0)):=by
 refine⟨λbase s X i G J Z h=>?_⟩;have q:=h x ZeL;rw[C]at q;obtain⟨g,p,A,K⟩:=q;obtain⟨u,Y,E,F⟩:=K.cell B;refine Cd (v:=u) ?_ ⟨GS.Le.refl s,F⟩;simp at Y;simp[execOp,I,A,Instr.loadAt,Instr.sureAddr,loadVar,L.run_agg,e,Y]
variable{R:List AV}
theorem NX(J:o.op=.load t x)(C:arg x=.ptr m c)(N:hp[m]? = some (.var T R))(L:Tab P t d n b z)(e:Fa d=false)(F:R[c]? = some f):Quiet P hp o arg f:=by
 refine⟨λbase s X i I S Z h=>?_⟩;have q:=h x (by rw[J];simp[Op.operands]);rw[C]at q;obtain⟨-,g,K,A⟩:=q;obtain⟨a,B,Y,E,G,M,y,W,O⟩:=Z m _ N;rw[K]at Y;cases Y;obtain⟨u,v,Q,V⟩:=O c f F;refine Cd (v:=u) ?_ ⟨GS.Le.refl s,V⟩;have:s.w.cell? ⟨g,c,none⟩=some u:=(Db G).trans v;simp[execOp,J,A,Instr.loadAt,Instr.sureAddr,loadVar,L.run_agg,e,this]
def A0J(hp:List Ow):List AV->Option (List D)
 |[]=>some []
 |a::r=>match HV hp a,A0J hp r with
  |some x,some l=>some (x::l)
  |_,_=>none
theorem SR{hp:List Ow}:∀{l:List AV} {S:List D},A0J hp l=some S->l.length=S.length/\∀(k:Nat) I,l[k]? = some I->HV hp I=some (DM S k)
 |[],S,h=>by cases h;exact⟨rfl,λk I B=>by cases B⟩
 |a::r,S,h=>by
  unfold A0J at h;split at h
  .rename_i x l q A
   cases h;obtain⟨K,Y⟩:=SR A;refine⟨by simp[K],λk I B=>?_⟩
   cases k with
   |zero=>cases B;exact q
   |succ k=>exact Y k I Zdn
  .cases h
theorem Zj(S:o.op=.load t x)(C:arg x=.ptr m c)(a:hp[m]? = some (.var T R))(L:Tab P t d n b z)(e:Fa d=true)(F:A0J hp ((R.drop c).take n)=some v)(G:c+n<=R.length):Quiet P hp o arg (.d (AQ v)):=by
 refine⟨λbase s X i Q xb H h=>?_⟩;have q:=h x (by rw[S];simp[Op.operands]);rw[C]at q;obtain⟨-,g,K,A⟩:=q;obtain⟨g',E,Y,J,N,Z,y,r,w⟩:=H m _ a;rw[K]at Y;cases Y;obtain⟨I,M⟩:=SR F;have l:v.length=n:=by rw[<-I];exact ZiB
 have key:∀j,∃u,j<n->s.w.cell? ⟨g,c+j,none⟩=some u/\u.oneCell'=true/\(DM v j).rel s u:=λj=>by
  by_cases W:j<n
  .have O:c+j<R.length:=by omega
   obtain⟨u,U,xa,xc⟩:=w (c+j) _ (Yac O);refine⟨u,λ_=>⟨(Db N).trans U,xa,?_⟩⟩;refine Ex H xc (M j _ ?_);rw[YaK,Yan W,YbO,Yac O]
  .exact ZjE
 obtain⟨f,p⟩:∃f:Nat->Value,∀j,j<n->s.w.cell? ⟨g,c+j,none⟩=some (f j)/\(f j).oneCell'=true/\(DM v j).rel s (f j):=⟨λj=>(key j).choose,λj W=>(key j).choose_spec W⟩;have V:=KL L e g c f λj W=>(p j W).1;refine Cd (v:=.agg ((List.range n).map f).toArray) ?_ ⟨GS.Le.refl s,_,rfl,by simp[l],λk B=>?_⟩
 .simp [execOp,S,A,Instr.loadAt,Instr.sureAddr,V]
 .rw [l]at B
  exact⟨f k,by simp[B],(p k B).2⟩
theorem A4U(L:Tab P t d n b z)(e:Fa d=true)(f:Array Value)(off:Nat):(part t f off).run P w=.ok (.agg (f.extract off (off+n))) w:=by
 simp[part,L.run_agg,e,L.run_size]
theorem A6e{f:Array Value}(q:f.size=v.length)(A:∀k,k<v.length->∃u,f[k]? = some u/\u.oneCell'=true/\(DM v k).rel s u)(h:n+b<=v.length):(AQ ((v.drop n).take b)).rel s (.agg (f.extract n (n+b))):=by
 refine⟨_,rfl,by simp;omega,λk B=>?_⟩;have B:k<b:=by simp at B;omega
 obtain⟨u,K,Y⟩:=A (n+k) ZbG;rw[Lk B,IM];refine⟨u,?_,Y⟩;rw[YdD,Yan ZbG];exact K
theorem A3W(Q:o.op=.index t x y)(C:arg x=.d (AQ v))(N:arg y=.d (ex (.int i a)))(L:Tab P t (.array k n) b T z)(B:Tab P n d m c u)(e:Fa d=true)(F:0<=a)(J:a<k)(G:a.toNat*m+m<=v.length):Quiet P hp o arg (.d (AQ ((v.drop (a.toNat*m)).take m))):=by
 refine⟨λbase s X I O S Z h=>?_⟩;have q:=h x Zdt;have A:=h y Zdt;rw[C]at q;rw[N]at A;have M:I y=.int i a:=A;obtain⟨f,E,K,Y⟩:=q;refine Cd (v:=.agg (f.extract (a.toNat*m) (a.toNat*m+m))) ?_ ⟨GS.Le.refl s,A6e K Y G⟩;simp[execOp,Q,E,M,Instr.index,asIntOf,run_underlying L.und,F,J,B.run_size,A4U B e]
theorem UR(W:o.op=.index t x y)(C:arg x=.d (AQ v))(N:arg y=.d (ex (.int i a)))(L:Tab P t (.array c n) b T z)(E:Tab P n d 1 m u)(e:Fa d=false)(G:0<=a)(J:a<c)(I:a.toNat<v.length):Quiet P hp o arg (.d (DM v a.toNat)):=by
 refine⟨λbase s X M V j g h=>?_⟩;have q:=h x (by rw[W];simp[Op.operands]);have A:=h y (by rw[W];simp[Op.operands]);rw[C]at q;rw[N]at A;have Q:M y=.int i a:=A;obtain⟨f,F,K,Y⟩:=q;obtain⟨B,O,S,Z⟩:=Y _ I;refine Cd (v:=B) ?_ ⟨GS.Le.refl s,Z⟩;simp[execOp,W,F,Q,Instr.index,asIntOf,run_underlying L.und,G,J,E.run_size,part,E.run_agg,e,O]
theorem Quiet.extract{i:Nat}(F:o.op=.extract x i)(C:arg x=.d (Gb v))(J:i<v.length):Quiet P hp o arg (.d (DM v i)):=by
 refine⟨λbase s X B E z Z h=>?_⟩;have q:=h x (by rw[F];simp[Op.operands]);rw[C]at q;obtain⟨f,b,A,K⟩:=q;obtain⟨u,Y,n⟩:=K i J;exact Cd (v:=u) (by simp[execOp,F,b,Instr.extract,Y]) ⟨GS.Le.refl s,n⟩
end
def Abs(P:Program)(f:FuncId)(ds:List D)(r:D):Prop:=
 (∀args w,(callFunc f args).run P w=.ok (.enter f args) w)/\∀(s:GS) (J:List Value),s.Ok->J.length=ds.length->(∀k,k<ds.length->(DM ds k).rel s (J.getD k undef)) ->
  Calls P f J.toArray s.w λe M=>∃v,e=.returned v/\∃j:GS,j.w=M/\GS.Le s j/\r.rel j v
def ArgsLe(G:List Ow)(arg:Operand->AV):List Operand->List D->Prop
 |[],[]=>True
 |x::l,d::S=>(∃y,HV G (arg x)=some y/\D.le y d)/\ArgsLe G arg l S
 |_,_=>False
variable{vz:Operand->AV}
theorem ArgsLe.nil{hp:List Ow}:ArgsLe hp vz [] []:=trivial
variable{H:List Ow}
theorem ArgsLe.cons{l:List Operand}{d y:D}{ds:List D}(h:HV H (vz x)=some y)(I:D.le y d)(V:ArgsLe H vz l ds):ArgsLe H vz (x::l) (d::ds):=⟨⟨y,h,I⟩,V⟩
theorem ArgsLe.rel{base:Nat}{ρ:Nat->Value}{s:GS}{hp:List Ow}{arg:Operand->AV}{ev:Operand->Value}(E:HpOk base ρ s hp):∀{l:List Operand} {S:List D},ArgsLe hp arg l S->(∀x∈l,AVr hp.length ρ s (arg x) (ev x))->l.length=S.length/\∀k,k<S.length->(DM S k).rel s ((l.map ev).getD k undef)
 |[],[],_,_=>⟨rfl,λk B=>absurd B ZbV⟩
 |[],_::_,h,_=>h.elim
 |_::_,[],h,_=>h.elim
 |x::l,d::S,⟨⟨y,q,A⟩,K⟩,h=>by
  obtain⟨Y,n⟩:=ArgsLe.rel E K λx C=>h x (Ybo _ C);refine⟨by simp[Y],λk B=>?_⟩
  cases k with
  |zero=>exact A s _ (Ex E (h x Ybp) q)
  |succ k=>exact n k Zdn
theorem Quiet.call{o:Oper}{f:Operand}(G:o.op=.call { callee:=.value f,args:=vN.toArray,argTypes:=vs })(p:vz f=.d (ex (.func (.func ve) #[] #[])))(F:Abs P ve v r)(l:ArgsLe H vz vN v):Quiet P H o vz (.d r):=by
 refine⟨λbase s X i E z J h=>?_⟩;have q:=h f Zdj;rw[p]at q;have b:i f=.func (.func ve) #[] #[]:=q;obtain⟨A,K⟩:=ArgsLe.rel (ev:=i) J l λx C=>h x (by rw[G];simp[Op.operands,Call.operands,C]);have Y:=F.2 s (vN.map i) E ZdI K;unfold RegG.OpStep
 have n:(execOp i o).run P s.w=.ok (.enter ve (vN.map i).toArray) s.w:=by
  simp[execOp,G,resolve,b,Deferred.ofValue,invoke,F.1]
 rw[n];exact Y.mono λe M ⟨B,a,j,Z,I,V⟩=>⟨B,a,j,Z,I,V⟩
structure TyRow where
 t:TypeId
 d:TypeDesc
 n:Nat
 b:Nat
 z:Value
def A1L : List TyRow := [⟨2, .int .i64, 1, 8, .int .i64 0⟩, ⟨3, .int .i64, 1, 8, .int .i64 0⟩, ⟨4, .bool, 1, 1, .bool false⟩, ⟨5, .int .u8, 1, 1, .int .u8 0⟩, ⟨6, .int .u8, 1, 1, .int .u8 0⟩, ⟨8, .struct #[⟨"x",2,0,false,"","runtime",0⟩, ⟨"y",3,1,false,"","runtime",8⟩, ⟨"signed",4,2,false,"","runtime",16⟩, ⟨"code",6,3,false,"","runtime",17⟩], 4, 24, .agg #[.int .i64 0, .int .i64 0, .bool false, .int .u8 0]⟩, ⟨9, .string, 1, 16, .string ByteArray.empty⟩, ⟨10, .string, 1, 16, .string ByteArray.empty⟩, ⟨11, .string, 1, 16, .string ByteArray.empty⟩, ⟨12, .int .u64, 1, 8, .int .u64 0⟩, ⟨14, .struct #[⟨"msg",9,0,false,"","runtime",0⟩, ⟨"addr",12,1,false,"","runtime",16⟩], 2, 24, .agg #[.string ByteArray.empty, .int .u64 0]⟩, ⟨19, .struct #[⟨"typ",17,0,false,"","internal/runtime/maps",0⟩], 1, 8, .agg #[.pointer none]⟩, ⟨22, .slice 5, 1, 24, .slice none 0 0⟩, ⟨24, .slice 28, 1, 24, .slice none 0 0⟩, ⟨26, .struct #[⟨"N",3,0,false,"","",0⟩, ⟨"Eqs",24,1,false,"","",8⟩, ⟨"Neqs",24,2,false,"","",32⟩], 3, 56, .agg #[.int .i64 0, .slice none 0 0, .slice none 0 0]⟩, ⟨27, .slice 114, 1, 24, .slice none 0 0⟩, ⟨28, .slice 114, 1, 24, .slice none 0 0⟩, ⟨29, .slice 36, 1, 24, .slice none 0 0⟩, ⟨30, .slice 36, 1, 24, .slice none 0 0⟩, ⟨31, .slice 3, 1, 24, .slice none 0 0⟩, ⟨32, .slice 131, 1, 24, .slice none 0 0⟩, ⟨34, .struct #[⟨"Kind",3,0,false,"","",0⟩, ⟨"P",28,1,false,"","",8⟩, ⟨"N",3,2,false,"","",32⟩, ⟨"D",3,3,false,"","",40⟩, ⟨"R",3,4,false,"","",48⟩, ⟨"O",30,5,false,"","",56⟩, ⟨"L",24,6,false,"","",80⟩, ⟨"S",31,7,false,"","",104⟩, ⟨"B",32,8,false,"","",128⟩], 9, 152, .agg #[.int .i64 0, .slice none 0 0, .int .i64 0, .int .i64 0, .int .i64 0, .slice none 0 0, .slice none 0 0, .slice none 0 0, .slice none 0 0]⟩, ⟨35, .slice 24, 1, 24, .slice none 0 0⟩, ⟨36, .array 8 3, 8, 64, .agg #[.int .i64 0, .int .i64 0, .int .i64 0, .int .i64 0, .int .i64 0, .int .i64 0, .int .i64 0, .int .i64 0]⟩, ⟨37, .slice 111, 1, 24, .slice none 0 0⟩, ⟨38, .slice 111, 1, 24, .slice none 0 0⟩, ⟨39, .array 8 38, 8, 192, .agg #[.slice none 0 0, .slice none 0 0, .slice none 0 0, .slice none 0 0, .slice none 0 0, .slice none 0 0, .slice none 0 0, .slice none 0 0]⟩, ⟨41, .struct #[⟨"L",36,0,false,"","",0⟩, ⟨"Q",38,8,false,"","",64⟩, ⟨"R",39,9,false,"","",88⟩], 17, 280, .agg #[.int .i64 0, .int .i64 0, .int .i64 0, .int .i64 0, .int .i64 0, .int .i64 0, .int .i64 0, .int .i64 0, .slice none 0 0, .slice none 0 0, .slice none 0 0, .slice none 0 0, .slice none 0 0, .slice none 0 0, .slice none 0 0, .slice none 0 0, .slice none 0 0]⟩, ⟨42, .slice 129, 1, 24, .slice none 0 0⟩, ⟨43, .slice 184, 1, 24, .slice none 0 0⟩, ⟨44, .slice 187, 1, 24, .slice none 0 0⟩, ⟨46, .struct #[⟨"N",3,0,false,"","",0⟩, ⟨"Cof",24,1,false,"","",8⟩, ⟨"G",24,2,false,"","",32⟩, ⟨"O",30,3,false,"","",56⟩, ⟨"C",35,4,false,"","",80⟩, ⟨"Q",35,5,false,"","",104⟩, ⟨"S",35,6,false,"","",128⟩, ⟨"R",41,7,false,"","",152⟩, ⟨"At",42,24,false,"","",432⟩, ⟨"Sq",43,25,false,"","",456⟩, ⟨"X",44,26,false,"","",480⟩, ⟨"B",32,27,false,"","",504⟩], 28, 528, .agg #[.int .i64 0, .slice none 0 0, .slice none 0 0, .slice none 0 0, .slice none 0 0, .slice none 0 0, .slice none 0 0, .int .i64 0, .int .i64 0, .int .i64 0, .int .i64 0, .int .i64 0, .int .i64 0, .int .i64 0, .int .i64 0, .slice none 0 0, .slice none 0 0, .slice none 0 0, .slice none 0 0, .slice none 0 0, .slice none 0 0, .slice none 0 0, .slice none 0 0, .slice none 0 0, .slice none 0 0, .slice none 0 0, .slice none 0 0, .slice none 0 0]⟩, ⟨48, .struct #[⟨"K",26,0,false,"","",0⟩, ⟨"C",34,3,false,"","",56⟩, ⟨"E",46,12,false,"","",208⟩], 40, 736, .agg #[.int .i64 0, .slice none 0 0, .slice none 0 0, .int .i64 0, .slice none 0 0, .int .i64 0, .int .i64 0, .int .i64 0, .slice none 0 0, .slice none 0 0, .slice none 0 0, .slice none 0 0, .int .i64 0, .slice none 0 0, .slice none 0 0, .slice none 0 0, .slice none 0 0, .slice none 0 0, .slice none 0 0, .int .i64 0, .int .i64 0, .int .i64 0, .int .i64 0, .int .i64 0, .int .i64 0, .int .i64 0, .int .i64 0, .slice none 0 0, .slice none 0 0, .slice none 0 0, .slice none 0 0, .slice none 0 0, .slice none 0 0, .slice none 0 0, .slice none 0 0, .slice none 0 0, .slice none 0 0, .slice none 0 0, .slice none 0 0, .slice none 0 0]⟩, ⟨49, .int .i64, 1, 8, .int .i64 0⟩, ⟨55, .slice 212, 1, 24, .slice none 0 0⟩, ⟨56, .slice 64, 1, 24, .slice none 0 0⟩, ⟨58, .struct #[⟨"Kind",5,0,false,"","",0⟩, ⟨"L",55,1,false,"","",8⟩, ⟨"V",56,2,false,"","",32⟩], 3, 56, .agg #[.int .u8 0, .slice none 0 0, .slice none 0 0]⟩, ⟨59, .int .u16, 1, 2, .int .u16 0⟩, ⟨61, .slice 22, 1, 24, .slice none 0 0⟩, ⟨63, .array 2 58, 6, 112, .agg #[.int .u8 0, .slice none 0 0, .slice none 0 0, .int .u8 0, .slice none 0 0, .slice none 0 0]⟩, ⟨64, .int .i8, 1, 1, .int .i8 0⟩, ⟨65, .array 2 64, 2, 2, .agg #[.int .i8 0, .int .i8 0]⟩, ⟨67, .struct #[⟨"Kind",3,0,false,"","",0⟩, ⟨"P",28,1,false,"","",8⟩, ⟨"O",30,2,false,"","",32⟩], 3, 56, .agg #[.int .i64 0, .slice none 0 0, .slice none 0 0]⟩, ⟨83, .struct #[⟨"Part",5,0,false,"","",0⟩, ⟨"At",5,1,false,"","",1⟩, ⟨"By",3,2,false,"","",8⟩], 3, 16, .agg #[.int .u8 0, .int .u8 0, .int .i64 0]⟩, ⟨92, .struct #[⟨"b",22,0,false,"","eliminant/claim",0⟩], 1, 24, .agg #[.slice none 0 0]⟩, ⟨95, .struct #[⟨"B",22,0,false,"","",0⟩, ⟨"Ok",4,1,false,"","",24⟩], 2, 32, .agg #[.slice none 0 0, .bool false]⟩, ⟨103, .struct #[⟨"b",22,0,false,"","eliminant/claim",0⟩], 1, 24, .agg #[.slice none 0 0]⟩, ⟨107, .slice 335, 1, 24, .slice none 0 0⟩, ⟨109, .struct #[⟨"Neg",4,0,false,"","",0⟩, ⟨"Mag",107,1,false,"","",8⟩], 2, 32, .agg #[.bool false, .slice none 0 0]⟩, ⟨111, .struct #[⟨"Num",109,0,false,"","",0⟩, ⟨"Den",109,2,false,"","",32⟩], 4, 64, .agg #[.bool false, .slice none 0 0, .bool false, .slice none 0 0]⟩, ⟨112, .array 8 3, 8, 64, .agg #[.int .i64 0, .int .i64 0, .int .i64 0, .int .i64 0, .int .i64 0, .int .i64 0, .int .i64 0, .int .i64 0]⟩, ⟨114, .struct #[⟨"C",111,0,false,"","",0⟩, ⟨"M",112,4,false,"","",64⟩], 12, 128, .agg #[.bool false, .slice none 0 0, .bool false, .slice none 0 0, .int .i64 0, .int .i64 0, .int .i64 0, .int .i64 0, .int .i64 0, .int .i64 0, .int .i64 0, .int .i64 0]⟩, ⟨129, .struct #[⟨"Lo",111,0,false,"","",0⟩, ⟨"Hi",111,4,false,"","",64⟩], 8, 128, .agg #[.bool false, .slice none 0 0, .bool false, .slice none 0 0, .bool false, .slice none 0 0, .bool false, .slice none 0 0]⟩, ⟨131, .array 8 129, 64, 1024, .agg #[.bool false, .slice none 0 0, .bool false, .slice none 0 0, .bool false, .slice none 0 0, .bool false, .slice none 0 0, .bool false, .slice none 0 0, .bool false, .slice none 0 0, .bool false, .slice none 0 0, .bool false, .slice none 0 0, .bool false, .slice none 0 0, .bool false, .slice none 0 0, .bool false, .slice none 0 0, .bool false, .slice none 0 0, .bool false, .slice none 0 0, .bool false, .slice none 0 0, .bool false, .slice none 0 0, .bool false, .slice none 0 0, .bool false, .slice none 0 0, .bool false, .slice none 0 0, .bool false, .slice none 0 0, .bool false, .slice none 0 0, .bool false, .slice none 0 0, .bool false, .slice none 0 0, .bool false, .slice none 0 0, .bool false, .slice none 0 0, .bool false, .slice none 0 0, .bool false, .slice none 0 0, .bool false, .slice none 0 0, .bool false, .slice none 0 0, .bool false, .slice none 0 0, .bool false, .slice none 0 0, .bool false, .slice none 0 0, .bool false, .slice none 0 0]⟩, ⟨139, .struct #[⟨"k",26,0,false,"","eliminant/claim",0⟩], 3, 56, .agg #[.int .i64 0, .slice none 0 0, .slice none 0 0]⟩, ⟨143, .struct #[⟨"rules",139,0,true,"","eliminant/claim",0⟩, ⟨"c",34,3,false,"","eliminant/claim",56⟩], 12, 208, .agg #[.int .i64 0, .slice none 0 0, .slice none 0 0, .int .i64 0, .slice none 0 0, .int .i64 0, .int .i64 0, .int .i64 0, .slice none 0 0, .slice none 0 0, .slice none 0 0, .slice none 0 0]⟩, ⟨150, .struct #[⟨"claims",143,0,true,"","eliminant/claim",0⟩, ⟨"e",46,12,false,"","eliminant/claim",208⟩], 40, 736, .agg #[.int .i64 0, .slice none 0 0, .slice none 0 0, .int .i64 0, .slice none 0 0, .int .i64 0, .int .i64 0, .int .i64 0, .slice none 0 0, .slice none 0 0, .slice none 0 0, .slice none 0 0, .int .i64 0, .slice none 0 0, .slice none 0 0, .slice none 0 0, .slice none 0 0, .slice none 0 0, .slice none 0 0, .int .i64 0, .int .i64 0, .int .i64 0, .int .i64 0, .int .i64 0, .int .i64 0, .int .i64 0, .int .i64 0, .slice none 0 0, .slice none 0 0, .slice none 0 0, .slice none 0 0, .slice none 0 0, .slice none 0 0, .slice none 0 0, .slice none 0 0, .slice none 0 0, .slice none 0 0, .slice none 0 0, .slice none 0 0, .slice none 0 0]⟩, ⟨152, .struct #[⟨"N",4,0,false,"","",0⟩, ⟨"Cof",4,1,false,"","",1⟩, ⟨"G",4,2,false,"","",2⟩, ⟨"O",4,3,false,"","",3⟩, ⟨"C",4,4,false,"","",4⟩, ⟨"Q",4,5,false,"","",5⟩, ⟨"S",4,6,false,"","",6⟩, ⟨"R",4,7,false,"","",7⟩, ⟨"At",4,8,false,"","",8⟩, ⟨"Sq",4,9,false,"","",9⟩, ⟨"X",4,10,false,"","",10⟩, ⟨"B",4,11,false,"","",11⟩], 12, 12, .agg #[.bool false, .bool false, .bool false, .bool false, .bool false, .bool false, .bool false, .bool false, .bool false, .bool false, .bool false, .bool false]⟩, ⟨184, .struct #[⟨"A",111,0,false,"","",0⟩, ⟨"P",28,4,false,"","",64⟩], 5, 88, .agg #[.bool false, .slice none 0 0, .bool false, .slice none 0 0, .slice none 0 0]⟩, ⟨187, .array 8 111, 32, 512, .agg #[.bool false, .slice none 0 0, .bool false, .slice none 0 0, .bool false, .slice none 0 0, .bool false, .slice none 0 0, .bool false, .slice none 0 0, .bool false, .slice none 0 0, .bool false, .slice none 0 0, .bool false, .slice none 0 0, .bool false, .slice none 0 0, .bool false, .slice none 0 0, .bool false, .slice none 0 0, .bool false, .slice none 0 0, .bool false, .slice none 0 0, .bool false, .slice none 0 0, .bool false, .slice none 0 0, .bool false, .slice none 0 0]⟩, ⟨195, .struct #[⟨"N",64,0,false,"","",0⟩, ⟨"D",64,1,false,"","",1⟩, ⟨"K",5,2,false,"","",2⟩], 3, 3, .agg #[.int .i8 0, .int .i8 0, .int .u8 0]⟩, ⟨201, .int .u64, 1, 8, .int .u64 0⟩, ⟨210, .slice 299, 1, 24, .slice none 0 0⟩, ⟨212, .struct #[⟨"T",210,0,false,"","",0⟩], 1, 24, .agg #[.slice none 0 0]⟩, ⟨222, .array 3 3, 3, 24, .agg #[.int .i64 0, .int .i64 0, .int .i64 0]⟩, ⟨225, .struct #[⟨"lo",3,0,false,"","eliminant/claim",0⟩, ⟨"hi",3,1,false,"","eliminant/claim",8⟩], 2, 16, .agg #[.int .i64 0, .int .i64 0]⟩, ⟨231, .struct #[⟨"Low",3,0,false,"","",0⟩, ⟨"High",3,1,false,"","",8⟩], 2, 16, .agg #[.int .i64 0, .int .i64 0]⟩, ⟨243, .int .u64, 1, 8, .int .u64 0⟩, ⟨299, .array 5 64, 5, 5, .agg #[.int .i8 0, .int .i8 0, .int .i8 0, .int .i8 0, .int .i8 0]⟩, ⟨315, .array 8 4, 8, 8, .agg #[.bool false, .bool false, .bool false, .bool false, .bool false, .bool false, .bool false, .bool false]⟩, ⟨321, .slice 38, 1, 24, .slice none 0 0⟩, ⟨335, .int .u32, 1, 4, .int .u32 0⟩, ⟨346, .slice 109, 1, 24, .slice none 0 0⟩, ⟨375, .int .u8, 1, 1, .int .u8 0⟩]
def TY:List TyRow->Nat->Option TyRow
 |[],_=>none
 |p::r,t=>bif Nat.beq p.t t then some p else TY r t
def A0N:List TyRow->Prop
 |[]=>True
 |p::r=>Tab prog p.t p.d p.n p.b p.z/\A0N r
theorem A1N:A0N A1L:=⟨⟨underlying2,by kernel_rfl⟩,⟨underlying3,by kernel_rfl⟩,⟨underlying4,by kernel_rfl⟩,⟨underlying5,by kernel_rfl⟩,⟨underlying6,by kernel_rfl⟩,⟨underlying8,by kernel_rfl⟩,⟨underlying9,by kernel_rfl⟩,⟨underlying10,by kernel_rfl⟩,⟨underlying11,by kernel_rfl⟩,⟨underlying12,by kernel_rfl⟩,⟨underlying14,by kernel_rfl⟩,⟨underlying19,by kernel_rfl⟩,⟨underlying22,by kernel_rfl⟩,⟨underlying24,by kernel_rfl⟩,⟨underlying26,by kernel_rfl⟩,⟨underlying27,by kernel_rfl⟩,⟨underlying28,by kernel_rfl⟩,⟨underlying29,by kernel_rfl⟩,⟨underlying30,by kernel_rfl⟩,⟨underlying31,by kernel_rfl⟩,⟨underlying32,by kernel_rfl⟩,⟨underlying34,by kernel_rfl⟩,⟨underlying35,by kernel_rfl⟩,⟨underlying36,by kernel_rfl⟩,⟨underlying37,by kernel_rfl⟩,⟨underlying38,by kernel_rfl⟩,⟨underlying39,by kernel_rfl⟩,⟨underlying41,by kernel_rfl⟩,⟨underlying42,by kernel_rfl⟩,⟨underlying43,by kernel_rfl⟩,⟨underlying44,by kernel_rfl⟩,⟨underlying46,by kernel_rfl⟩,⟨underlying48,by kernel_rfl⟩,⟨underlying49,by kernel_rfl⟩,⟨underlying55,by kernel_rfl⟩,⟨underlying56,by kernel_rfl⟩,⟨underlying58,by kernel_rfl⟩,⟨underlying59,by kernel_rfl⟩,⟨underlying61,by kernel_rfl⟩,⟨underlying63,by kernel_rfl⟩,⟨underlying64,by kernel_rfl⟩,⟨underlying65,by kernel_rfl⟩,⟨underlying67,by kernel_rfl⟩,⟨underlying83,by kernel_rfl⟩,⟨underlying92,by kernel_rfl⟩,⟨underlying95,by kernel_rfl⟩,⟨underlying103,by kernel_rfl⟩,⟨underlying107,by kernel_rfl⟩,⟨underlying109,by kernel_rfl⟩,⟨underlying111,by kernel_rfl⟩,⟨underlying112,by kernel_rfl⟩,⟨underlying114,by kernel_rfl⟩,⟨underlying129,by kernel_rfl⟩,⟨underlying131,by kernel_rfl⟩,⟨underlying139,by kernel_rfl⟩,⟨underlying143,by kernel_rfl⟩,⟨underlying150,by kernel_rfl⟩,⟨underlying152,by kernel_rfl⟩,⟨underlying184,by kernel_rfl⟩,⟨underlying187,by kernel_rfl⟩,⟨underlying195,by kernel_rfl⟩,⟨underlying201,by kernel_rfl⟩,⟨underlying210,by kernel_rfl⟩,⟨underlying212,by kernel_rfl⟩,⟨underlying222,by kernel_rfl⟩,⟨underlying225,by kernel_rfl⟩,⟨underlying231,by kernel_rfl⟩,⟨underlying243,by kernel_rfl⟩,⟨underlying299,by kernel_rfl⟩,⟨underlying315,by kernel_rfl⟩,⟨underlying321,by kernel_rfl⟩,⟨underlying335,by kernel_rfl⟩,⟨underlying346,by kernel_rfl⟩,⟨underlying375,by kernel_rfl⟩,trivial⟩
theorem Rl:∀{l:List TyRow},A0N l->∀{t:Nat} {p:TyRow},TY l t=some p->p.t=t/\Tab prog p.t p.d p.n p.b p.z
 |[],_,_,_,h=>by cases h
 |q::l,⟨A,B⟩,t,p,h=>by
  unfold TY at h
  cases E:Nat.beq q.t t with
  |true=>rw[E]at h;cases h;exact⟨Yao E,A⟩
  |false=>rw[E]at h;exact Rl B h
theorem Aa(h:TY A1L t=some ⟨t,d,n,b,z⟩):Tab prog t d n b z:=(Rl A1N h).2
end
