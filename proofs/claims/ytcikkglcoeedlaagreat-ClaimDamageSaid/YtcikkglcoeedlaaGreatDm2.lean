/- Part 2. No condition. -/
import Derived.Laws.AppendOwn
import Derived.Test.YtcikkglcoeedlaaGreatDm1
set_option linter.all false
set_option maxRecDepth 100000
namespace Go.Proofs.YtcikkglcoeedlaaGreat
open _root_.Go.Proofs.Tryz
open Go.RowKit
variable{vl:Act}{vO:Array Bool}{vV:Array Field}{vt:Array TypeId}{vW:BinOp}{vS:Exit->Act->World->Prop}{uc:Field}{vd:FuncId}{a j:Int}{i:IntKind}{vP:List Operand}{n b T m c k f vj:Nat}{vh ub:Nat->Value}{va:Oper}{x y vT:Operand}{P:Program}{vJ:Prop}{us:Shape}{d:TypeDesc}{t U:TypeId}{z u:Value}{w:World}
structure GS where
 S:Nat->Nat->Prop
 tag:Nat->Nat
 w:World
structure GS.Ok(s:GS):Prop where
 lt:∀b k,s.S b k->b<s.w.heap.size
 safe:∀b k,Ty s.w b 335->s.S b k
structure GS.Chg(s s':GS):Prop where
 size:s.w.heap.size<=s'.w.heap.size
 up:∀b k,s.S b k->s'.S b k
 cell:∀b cs T fz,s.w.heap[b]? = some (.cells cs T fz)->∃cs' fz',s'.w.heap[b]? = some (.cells cs' T fz')/\∀k,s.S b k->cs'[k]? = cs[k]?
structure GS.Le(s s':GS):Prop where
 ext:Ext s.w s'.w
 up:∀b k,s.S b k->s'.S b k
 old:∀b k,b<s.w.heap.size->s'.S b k->s.S b k
 tag:∀b,b<s.w.heap.size->s'.tag b=s.tag b
 ok:s.Ok->s'.Ok
theorem GS.Le.refl(s:GS):GS.Le s s:=⟨Ext.refl _,λ_ _ h=>h,λ_ _ _ h=>h,λ_ _=>rfl,λh=>h⟩
theorem GS.Le.trans{a b c:GS}(h:GS.Le a b)(k:GS.Le b c):GS.Le a c:=
 ⟨h.ext.trans k.ext,λb A q=>k.up _ _ (h.up _ _ q),λx A C q=>h.old _ _ C (k.old _ _ (Yaq C h.ext.size) q),λx C=>(k.tag x (Yaq C h.ext.size)).trans (h.tag x C),λq=>k.ok (h.ok q)⟩
variable{s vq:GS}
theorem GS.Le.chg(h:GS.Le s vq):GS.Chg s vq:=⟨h.ext.size,h.up,λx f T K C=>⟨f,K,(h.ext.block (Bv C)).trans C,λ_ _=>rfl⟩⟩
theorem GS.Chg.refl(s:GS):GS.Chg s s:=(GS.Le.refl s).chg
theorem GS.Chg.trans{a b c:GS}(h:GS.Chg a b)(k:GS.Chg b c):GS.Chg a c:=
 ⟨Yau h.size k.size,λx y B=>k.up _ _ (h.up _ _ B),λx f T E C=>by
  obtain⟨r,F,q,A⟩:=h.cell x f T E C;obtain⟨s,l,K,Q⟩:=k.cell x r T F q;exact⟨s,l,K,λy M=>(Q y (h.up _ _ M)).trans (A y M)⟩⟩
theorem GS.Le.heap(h:Ext s.w w)(q:w.heap=s.w.heap):GS.Le s { s with w:=w }:=
 ⟨h,λ_ _ h=>h,λ_ _ _ h=>h,λ_ _=>rfl,λA=>⟨λb k E=>by show b<w.heap.size;rw[q];exact A.lt b k E,λb k ⟨f,K,E⟩=>A.safe b k ⟨f,K,by rw[<-q];exact E⟩⟩⟩
def GS.grown(s:GS)(N:World):GS:=⟨λb k=>s.S b k\/(s.w.heap.size<=b/\b<N.heap.size),s.tag,N⟩
theorem FO(h:Ext s.w w):GS.Le s (s.grown w):=
 ⟨h, fun _ _ h => .inl h, fun b k E B => B.elim id fun A => absurd E ZbC, fun _ _ => rfl, fun B => ⟨fun b k E => E.elim (fun A => Yaq (B.lt b k A) h.size) fun A => A.2, fun b k ⟨f, K, E⟩ => by
  rcases YaI b s.w.heap.size with q | q
  .exact .inl (B.safe b k ⟨f,K,(h.block q).symm.trans E⟩)
  .exact .inr ⟨q,Bv E⟩⟩⟩
def GS.mk'(s:GS)(f:Array Value)(T:TypeId)(i:Nat):GS:=⟨s.S,λb=>if b=s.w.heap.size then i else s.tag b,s.w.alloc (.cells f T)⟩
theorem GS.le_mk'(s:GS)(f:Array Value)(T:TypeId)(i:Nat)(e:T≠335):GS.Le s (s.mk' f T i):=
 ⟨(Ext.refl _).alloc _, fun _ _ h => h, fun _ _ _ h => h, fun b E => by show (if b = s.w.heap.size then i else s.tag b) = _; rw [Yaj ZbC], fun B => ⟨fun b k E => Yaq (B.lt b k E) (by show _ ≤ (s.w.alloc _).heap.size; simp), fun b k ⟨F, C, E⟩ => by
  replace E:(s.w.alloc (.cells f T)).heap[b]? = some (.cells F 335 C):=E;rcases YaI b s.w.heap.size with q | q
  .exact B.safe b k ⟨F,C,(Below.heap_alloc s.w _ b q).symm.trans E⟩
  .exfalso
   have A:=Bv E;have K:b=s.w.heap.size:=by have Q:(s.w.alloc (.cells f T)).heap.size=s.w.heap.size+1:=Yei ..;omega
   rw[K,heap_alloc_new]at E;cases E;exact e rfl⟩⟩
structure D where
 rel:GS->Value->Prop
 st:∀{s s':GS} {v:Value},rel s v->GS.Chg s s'->rel s' v
def ex(u:Value):D:=⟨λ_ v=>v=u,λh _=>h⟩
abbrev eI(z:Int):D:=ex (.int .i64 z)
abbrev eN(n:Nat):D:=ex (.int .i64 (n:Nat))
abbrev eB(b:Bool):D:=ex (.bool b)
abbrev eS:D:=ex (.slice none 0 0)
def Cs:D:=⟨λ_ _=>True,λh _=>h⟩
instance:Inhabited D:=⟨Cs⟩
def Dd(S:List D)(k:Nat):D:=S.getD k Cs
def AP(ds:List D):D:=⟨λs v=>∃f:Array Value,v=.agg f/\f.size=ds.length/\∀k,k<ds.length->∃u,f[k]? = some u/\u.oneCell'=true/\(Dd ds k).rel s u,
 λ⟨f,q,A,K⟩ G=>⟨f,q,A,λk B=>let⟨u,Q,C,E⟩:=K k B;⟨u,Q,C,(Dd ds k).st E G⟩⟩⟩
def FA(S:List D):D:=⟨λs v=>∃f:Array Value,v=.tuple f/\f.size=S.length/\∀k,k<S.length->∃u,f[k]? = some u/\(Dd S k).rel s u,
 λ⟨f,q,A,K⟩ G=>⟨f,q,A,λk B=>let⟨u,Q,C⟩:=K k B;⟨u,Q,(Dd S k).st C G⟩⟩⟩
def Lies(s:GS)(b o:Nat)(T:TypeId)(S:List D):Prop:=
 ∃f K,s.w.heap[b]? = some (.cells f T K)/\∀k,k<S.length->s.S b (o+k)/\∃u,f[o+k]? = some u/\u.oneCell'=true/\(Dd S k).rel s u
theorem Lies.st{s s':GS}{ds:List D}(h:Lies s n b t ds)(G:GS.Chg s s'):Lies s' n b t ds:=by
 obtain⟨f,F,q,A⟩:=h;obtain⟨I,L,K,Q⟩:=G.cell n f t F q;refine⟨I,L,K,λk B=>?_⟩;obtain⟨C,u,E,g,x⟩:=A k B;exact⟨G.up _ _ C,u,(Q _ C).trans E,g,(Dd ds k).st x G⟩
variable{v:List D}
theorem Lies.cell{b o:Nat}(h:Lies s b o t v){k:Nat}(B:k<v.length):∃u,s.w.cell? ⟨b,o+k,none⟩=some u/\u.oneCell'=true/\(Dd v k).rel s u:=by
 obtain⟨f,C,q,A⟩:=h;obtain⟨_,u,K,Q⟩:=A k B;exact⟨u,(CU q).trans K,Q⟩
theorem Ja(S:List D)(i k:Nat):Dd (S.drop i) k=Dd S (i+k):=by simp[Dd,YbT]
theorem LP{i k:Nat}(h:k<i):Dd (v.take i) k=Dd v k:=by simp[Dd,YaK,h]
theorem Lies.drop{b o:Nat}(h:Lies s b o t v)(i:Nat):Lies s b (o+i) t (v.drop i):=by
 obtain⟨f,K,q,A⟩:=h;refine⟨f,K,q,λk B=>?_⟩;rw[Ybx]at B;rw[Ja,YbR];exact A (i+k) ZbC
theorem Lies.take{b o:Nat}(h:Lies s b o t v)(i:Nat):Lies s b o t (v.take i):=by
 obtain⟨f,K,q,A⟩:=h;refine⟨f,K,q,λk B=>?_⟩;rw[YaO]at B;rw[LP ZbC];exact A k ZbC
def Fk(T:TypeId)(ds:List D):D:=⟨λs v=>∃b o,v=.pointer (some ⟨b,o,none⟩)/\Lies s b o T ds,λ⟨b,o,q,A⟩ G=>⟨b,o,q,A.st G⟩⟩
def slD(T:TypeId)(sz:Nat)(J:List (List D)):D:=
 ⟨λs v=>∃(A:Option Addr) (c:Nat),v=.slice A J.length c/\J.length<=c/\c<=9223372036854775807 /\
  (0<J.length->∃b o,A=some ⟨b,o,none⟩/\(∀k,k<J.length->(J.getD k []).length=sz/\Lies s b (o+k*sz) T (J.getD k []))),
 λ⟨A,c,q,B,K,Q⟩ G=>⟨A,c,q,B,K,λE=>let⟨b,o,F,I⟩:=Q E;⟨b,o,F,λk C=>⟨(I k C).1,(I k C).2.st G⟩⟩⟩⟩
def D.le(x y:D):Prop:=∀s v,x.rel s v->y.rel s v
theorem D.le.refl(x:D):D.le x x:=λ_ _ h=>h
theorem Ae{x y:D}(h:x=y):D.le x y:=h▸D.le.refl x
theorem slD.nil(T:TypeId)(sz:Nat)(s:GS):(slD T sz []).rel s (.slice none 0 0):=⟨none,0,rfl,by simp,by omega,λh=>absurd h ZbR⟩
theorem UB(B:List (List D))(i k:Nat):(B.drop i).getD k []=B.getD (i+k) []:=by simp[YbT]
variable{vk:List (List D)}
theorem Pb(h:b<n):(vk.take n).getD b []=vk.getD b []:=by simp[YaK,h]
section
namespace RegG
open Go.RowKit
def _root_.Go.Proofs.YtcikkglcoeedlaaGreat.GS.dr(s:GS):GS:={ s with w:=s.w.drew }
def OpStep(P:Program)(o:Oper)(ev:Operand->Value)(s:GS)(R:Value->GS->Prop):Prop:=
 match (execOp ev o).run P s.w with
 |.ok (.value v) N=>∃j:GS,j.w=N/\R v j
 |.ok .skip N=>∃j:GS,j.w=N/\R undef j
 |.ok (.enter f args) N=>Calls P f args N λe X=>∃v,e=.returned v/\∃j:GS,j.w=X/\R v j
 |_=>False
theorem opStep_wp{i:Operand->Value}{R:Value->GS->Prop}{K:Act->World->Prop}(J:BN va.op=true)(o:∀y∈va.op.operands,vl.eval y=i y)
  (h:OpStep P va i s R) (g:∀v (X:GS),R v X->K (vl.put va.dst v) X.w):va.wp P vl s.w K vS:=by
 unfold Oper.wp
 have a:∀A b,va.op≠.select A b:=by
  intro A b e;rw[e]at J;cases J
 rw[execOp_congr va a o];unfold OpStep at h;split at h
 .rename_i v X Y;rw[Y];obtain⟨j,rfl,h⟩:=h;exact g _ _ h
 .rename_i X Y;rw[Y];obtain⟨j,rfl,h⟩:=h;exact g _ _ h
 .rename_i f args X Y
  rw[Y];exact Calls.mono h λe B ⟨v,q,j,H,E⟩=>by subst q;subst H;exact g _ _ E
 .exact h.elim
abbrev Fact:=List Value->GS->Prop
def Known(Z:List Shape)(l:List Fact)(i:Nat)(g:Nat->Value)(w:GS):Prop:=
 ∀x,Z[i]? = some x->∀j∈x.bef,∀y F,Z[j]? = some y->l[j]? = some F->F (y.deps.map g) w
def StepAt(P:Program)(Z:List Shape)(l:List Fact)(a:Act)(b:GS)(i:Nat)(o:Oper)(x:Shape)(F:Fact):Prop:=
 ∀(g:Nat->Value) (w:GS) (q:Operand->Value),GS.Le b w->Known Z l i g w->Vs q g x.env ->
  (∀t,(∀p∈x.env,p.1≠t)->q (.tmp t)=a.tmps.getD t undef)->(∀v,q (.const v)=v)->(∀f,q (.func f)=.func (.func f) #[] #[]) ->
  (Ft o g=true->OpStep P o q w λv N=>GS.Le w N/\F (x.deps.map (upd g i v)) N)/\(Ft o g=false->F (x.deps.map (upd g i undef)) w)
def StepsAt(P:Program)(Z:List Shape)(l:List Fact)(a:Act)(b:GS):Nat->List Oper->List Shape->List Fact->Prop
 |i,o::L,x::S,F::T=>StepAt P Z l a b i o x F/\StepsAt P Z l a b (i+1) L S T
 |_,_,[],[]=>True
 |_,_,_,_=>False
theorem StepsAt.at{P:Program}{Z:List Shape}{l:List Fact}{a:Act}{b:GS}:∀{S:List Shape} {T:List Fact} {L:List Oper} {i:Nat},StepsAt P Z l a b i L S T ->
  S.length=T.length/\∀k o x,L[k]? = some o->S[k]? = some x->∃F,T[k]? = some F/\StepAt P Z l a b (i+k) o x F
 |[],[],L,i,_=>⟨rfl,λk o x _ C=>by simp at C⟩
 |[],_::_,L,i,h=>by cases L<;>exact h.elim
 |_::_,[],L,i,h=>by cases L<;>exact h.elim
 |x::S,F::T,[],i,h=>h.elim
 |x::S,F::T,o::L,i,h=>Zab
section
variable {P:Program} {L:List Oper} {sh:List Shape} {Rs:List Fact} {a:Act} {w0:GS}
structure HInv(L:List Oper)(sh:List Shape)(Rs:List Fact)(a:Act)(w0:GS)(listed:Array Bool)(g:Nat->Value)(a':Act)(w':GS):Prop where
 size:listed.size=L.length
 closed:∀j o,L[j]? = some o->listed.getD j false=true->∀e∈Bw o,listed.getD e false=true
 tail:∀t,sh.length<=t->listed.getD t false=false
 asz:a'.tmps.size=a.tmps.size
 adef:a'.defers=a.defers
 a1:∀j o d,j<sh.length->L[j]? = some o->listed.getD j false=true->o.dst=some d->a'.tmps[d]? = some (g j)
 a2:∀t,(∀j o,j<sh.length->L[j]? = some o->listed.getD j false=true->o.dst≠some t)->a'.tmps[t]? = a.tmps[t]?
 facts:∀j y F,sh[j]? = some y->Rs[j]? = some F->listed.getD j false=true->F (y.deps.map g) w'
 ext:GS.Le w0 w'
theorem step_inv(O:Ee L sh=true)(K:Ia L sh.length a.tmps.size=true)
  (xa:∀F∈Rs,∀Q V Z,GS.Le V Z->F Q V->F Q Z)
 {g:Nat->Value} (S:HInv L sh Rs a w0 vO g vl s) {i:Nat} {F:Fact} (N:L[i]? = some va) (C:sh[i]? = some us) (hF:Rs[i]? = some F)
  (v:vO.getD i false=false) (n:∀e∈Bw va,vO.getD e false=true) (b:GS.Le s vq) (p:F (us.deps.map (upd g i z)) vq) :
  HInv L sh Rs a w0 (vO.setIfInBounds i true) (upd g i z) (vl.put va.dst z) vq:=by
 have U:i<sh.length:=ER C;have H:i<vO.size:=by rw[S.size];exact(Yae.1 N).1
 have T:∀j,(vO.setIfInBounds i true).getD j false=true->j≠i->vO.getD j false=true:=λj h X=>by
  exact ZhB
 have xd:∀j y m,sh[j]? = some y->L[j]? = some m->vO.getD j false=true->i∉y.bef:=λj y m M l I J=>by
  have:=En O S.closed j y m M l (S.closed j m l I) i J;rw[v]at this;cases this
 refine⟨by simp[S.size],λj m l I e w=>?_,λt E=>?_,?_,?_,λj m d X l I R=>?_,λt E=>?_,λj y G M u I=>?_,S.ext.trans b⟩
 .by_cases r:j=i
  .subst r
   have:m=va:=Yag (l.symm.trans N);subst this;exact getD_set_true (n e w)
  .exact getD_set_true (S.closed j m l (T j I r) e w)
 .rw [getD_set_ne false ZbC];exact S.tail t E
 .unfold Act.put;split<;>simp[S.asz]
 .unfold Act.put;split<;>simp[S.adef]
 .by_cases r:j=i
  .subst r
   have:m=va:=Yag (l.symm.trans N);subst this
   have xc:d<vl.tmps.size:=by
    rw[S.asz];have A:=Yah.1 K m (Yaz (i:=j) (by rw[YaK];simp[U,l]));simp only[R,YaZ]at A;exact A
   simp[Act.put,R,upd,xc]
  .have xb:=T j I r
   have Y:va.dst≠some d:=λe=>r (GG O X U l N R e);rw[show upd g i z j=g j by simp[upd,r],<-S.a1 j m d X l xb R];unfold Act.put;split
   .rename_i f c
    have:f≠d:=λe=>Y (by rw[c,e]);simp[YaP this]
   .rfl
 .have A:va.dst≠some t:=by
   refine E i va U N ?_;simp[H]
  rw[<-S.a2 t λj m X l I=>E j m X l (getD_set_true I)];unfold Act.put;split
  .rename_i f c
   have:f≠t:=λe=>A (by rw[c,e]);simp[YaP this]
  .rfl
 .by_cases r:j=i
  .subst r
   have W:y=us:=Yag (M.symm.trans C);have o:G=F:=Yag (u.symm.trans hF);subst W;subst o;exact p
  .have xb:=T j I r
   have x:j<L.length:=Yaq (ER M) (DK O);have l:L[j]? = some L[j]:=Yab x;have xf:=xd j y _ M l xb
   have xe:y.deps.map (upd g i z)=y.deps.map g:=by
    refine YaS λk B=>?_;have q:=(CQ O l).2.1 y M;simp only[Fr,Yam]at q;have A:=Yah.1 q.1.1.1.1.2 k B;simp only[YaT,YcI]at A
    have xg:k≠i:=by
     rintro rfl;rcases A with A | A
     .exact r A.symm
     .exact xf ZdE
    simp[upd,xg]
   rw[xe];exact xa G (Yaz u) _ _ _ b (S.facts j y G M u xb)
theorem eval_operands(E:Ee L sh=true){g:Nat->Value}(N:HInv L sh Rs a w0 vO g vl s)(B:L[n]? = some va)(C:sh[n]? = some us)
  (S:vO.getD n false=false) (o:∀e∈Bw va,vO.getD e false=true):∀y∈va.op.operands,vl.eval y=QR a g us.env y:=by
 intro y M
 cases y with
 |tmp t=>
  show vl.tmps.getD t undef=_
  cases V:us.env.find? (λp=>p.1==t)with
  |some p=>
   have F:p∈us.env:=Ybp V;have z:p.1=t:=by simpa using YcJ V
   obtain⟨q,A,x,G,J⟩:=HZ E C B F;have I:=En E N.closed n us va C B o p.2 q;have:=N.a1 p.2 x p.1 A G I J;simp only[QR,V];rw[z]at this;simp[this]
  |none=>
   simp only[QR,V];have q:=(CQ E B).2.1 us C;simp only[Fr,Yam]at q;have A:=Yah.1 q.1.1.2 (.tmp t) (by simpa using M);simp only[YaT]at A;rcases A with A | A
   .exfalso
    have:t∈us.env.map (·.1):=by simpa using A
    obtain⟨p,F,z⟩:=YaD.1 this;have:=Ycl.1 V p F;simp[z]at this
   .have:vl.tmps[t]? = a.tmps[t]?:=by
     refine N.a2 t λj Q X O I W=>?_;have K:=Yah.1 A j (Ybd.2 X);rw[O]at K;simp[W]at K;rcases K with K | K
     .subst K;rw[S]at I;cases I
     .cases Z:sh[j]? with
      |none=>rw[Ycr]at Z;omega
      |some Y=>
       have:=En E N.closed j Y Q Z O (N.closed j Q O I) n (by simpa[Dz,Z]using K);rw[S]at this;cases this
    rw[YaA,YaA,this]
 |const v=>rfl
 |global b=>rfl
 |func f=>rfl
theorem wanted_of(E:Ee L sh=true){g:Nat->Value}(N:HInv L sh Rs a w0 vO g vl s)(B:L[n]? = some va)(C:sh[n]? = some us)
  (o:∀e∈Bw va,vO.getD e false=true):Region.wanted va (yielded L.toArray vl.tmps)=Ft va g:=by
 unfold Region.wanted Ft
 cases R:va.guard with
 |none=>rfl
 |some Z=>
  obtain⟨j,b⟩:=Z;have q:=(CQ E B).2.1 us C;simp only[Fr,Yam]at q;have A:=q.1.2;rw[R]at A;simp only[Yam,YaZ]at A;obtain⟨⟨K,Q⟩,k⟩:=A;have I:=En E N.closed n us va C B o j Zeh;split at k
  .rename_i x M
   obtain⟨d,F⟩:=YcC.1 k;have:=N.a1 j x d Q M I F;unfold yielded;simp only[YbH,M,YdT,F,this];cases g j<;>simp
  .cases k
theorem head_run(T:Ee L sh=true)(Y:Ia L sh.length a.tmps.size=true)
  (xA:∀F∈Rs,∀U w1 w2,GS.Le w1 w2->F U w1->F U w2) (xp:StepsAt P sh Rs a w0 0 L sh Rs)
  (xu:∀g O,GS.Le w0 O->(∀(j:Nat) (y:Shape) (F:Fact),sh[j]? = some y->Rs[j]? = some F->F (y.deps.map g) O)->wpList P L.toArray vS (L.drop sh.length) (FH g (L.take sh.length) 0 a) O.w) :
  ∀(f:Nat) (H:Array Bool) (g:Nat->Value) (a':Act) (O:GS),JI H=f->HInv L sh Rs a w0 H g a' O->wpAny P .any L.toArray vS f H a' O.w:=by
 obtain⟨xb,xo⟩:=xp.at;intro f
 induction f with
 |zero=>
  intro H g a' O s xa
  have xe:∀j,j<L.length->H.getD j false=true:=λj X=>Zac
  refine NJ T 0 L.length H a' O.w (DK T) ZbC xa.size xe (λj X=>by simp[xa.size,X]) ?_
  exact Zad
 |succ f ih=>
  intro H g a' O s xa;by_cases xk:∀j,j<sh.length->H.getD j false=true
  .have xI:f+1+sh.length=L.length:=Zae
   refine NJ T (f+1) sh.length H a' O.w (Yai _) xI xa.size xk xa.tail ?_;have:=xu g O xa.ext λj y F N hF=>xa.facts j y F N hF (xk j (ER N))
   have xG:FH g (L.take sh.length) 0 a=a':=Zaf
   rw[xG]at this;exact this
  .have xH:∃j,j<sh.length/\H.getD j false=false:=Ydo λxn=>xk λj X=>Zag
   obtain⟨j0,xL,xs⟩:=xH;refine⟨λc=>?_,λi K=>?_⟩
   .obtain ⟨k,_,C⟩:=LI T xa.size j0 (Yaq xL (DK T)) xs
    rw[c]at C;cases C
   .obtain ⟨xg,o,u,xf⟩:=NM T xa.size K
    have xr:i<sh.length:=Zah
    have E:sh[i]? = some sh[i]:=Yab xr;obtain⟨F,hF,w⟩:=xo i o _ u E;rw[YaH]at w;have xm:i<H.size:=Zjq
    have xn:=(CQ T u).2.1 _ E;simp only[Fr,Yam]at xn
    obtain⟨xv,xw⟩:=w g O (QR a g sh[i].env) xa.ext (λx xt j X y G N hG=>by
      have:x=sh[i]:=Yag (xt.symm.trans E);subst this;exact xa.facts j y G N hG (En T xa.closed i _ o E u xf j X))
     (SQ λp J=>by
      obtain⟨A,B,z,xc,xd⟩:=HZ T E u J
      cases xi:sh[i].env.find? (λq=>q.1==p.1)with
      |none=>have:=Ycl.1 xi p J;simp at this
      |some q=>
       have m:=Ybp xi;have xM:q.1=p.1:=by simpa using YcJ xi
       obtain⟨_,S,o2,xx,xq⟩:=HZ T E u m;rw[xM]at xq;have:=GG T S B xx xc xq xd;simp only[QR,xi,this])
     (λt M=>by
      have:sh[i].env.find? (λq=>q.1==t)=none:=Ycl.2 λp J=>by simpa using M p J
      simp only[QR,this])
     (λ_=>rfl) (λ_=>rfl)
    have xN:=wanted_of T xa u E xf
    have xJ:∀v w2 b,(a'.put o.dst v)=b->GS.Le O w2->F (sh[i].deps.map (upd g i v)) w2->wpAny P .any L.toArray vS f (H.setIfInBounds i true) b w2.w:=λv w2 b I V xy=>by
     subst I;refine ih _ (upd g i v) _ _ ?_ (step_inv T Y xA xa u E hF xg xf V xy);have:=Nq xm xg;omega
    unfold wpOp;have xx:L.toArray[i]? = some o:=by simpa using u
    rw[xx];show if Region.wanted o (yielded L.toArray a'.tmps)=true then _ else _
    rw[xN];split
    .rename_i hw
     exact ZjE
    .rename_i hw
     exact xJ undef O _ rfl (GS.Le.refl _) (xw (by simpa using hw))
theorem wp_region_ext{L:List Oper}{a:Act}(v:wpAny P .any L.toArray vS L.toArray.size (Array.replicate L.toArray.size false) a s.dr.w->vJ)(sh:List Shape)(Rs:List Fact)(C:Ee L sh=true)(q:Ia L sh.length a.tmps.size=true)
  (E:∀F∈Rs,∀J k A,GS.Le k A->F J k->F J A) (u:StepsAt P sh Rs a s.dr 0 L sh Rs)
  (z:∀g N,GS.Le s.dr N->(∀(j:Nat) (y:Shape) (F:Fact),sh[j]? = some y->Rs[j]? = some F->F (y.deps.map g) N)->wpList P L.toArray vS (L.drop sh.length) (FH g (L.take sh.length) 0 a) N.w) :
  vJ:=by
 refine v ?_;have B:JI (Array.replicate L.toArray.size false)=L.toArray.size:=by simp[JI,List.filter_replicate]
 refine head_run C q E u z _ _ (λ_=>undef) a s.dr B ?_
 have n:∀j,(Array.replicate L.toArray.size false).getD j false=false:=λj=>Zai
 exact⟨by simp,(λj o _ h=>by rw[n]at h;cases h),λt _=>n t,rfl,rfl,(λj o d _ _ h=>by rw[n]at h;cases h),λt _=>rfl,(λj y F _ _ h=>by rw[n]at h;cases h),GS.Le.refl _⟩
end
abbrev VFact:=Value->GS->Prop
def OpsKnown(R:List VFact)(i:Operand->Value)(w:GS):List (Nat×Nat)->Prop
 |[]=>True
 |(t,j)::r=>(∀F,R[j]? = some F->F (i (.tmp t)) w)/\OpsKnown R i w r
def UStep(P:Program)(R:List VFact)(a:Act)(q:GS)(o:Oper)(env:List (Nat×Nat))(F:VFact):Prop:=
 ∀(w:GS) (i:Operand->Value),GS.Le q w->OpsKnown R i w env ->
  (∀t,(∀p∈env,p.1≠t)->i (.tmp t)=a.tmps.getD t undef)->(∀v,i (.const v)=v)->(∀f,i (.func f)=.func (.func f) #[] #[]) ->
  match o.guard with
  |none=>OpStep P o i w λv N=>GS.Le w N/\F v N
  |some (j,b)=>∀S,(∀G,R[j]? = some G->G S w)->(S=.bool b->OpStep P o i w λv N=>GS.Le w N/\F v N)/\(S≠.bool b->F undef w)
def USteps(P:Program)(R:List VFact)(a:Act)(b:GS):List Oper->List (List (Nat×Nat))->List VFact->Prop
 |o::L,x::S,F::T=>UStep P R a b o x F/\USteps P R a b L S T
 |_,[],[]=>True
 |_,_,_=>False
def unF(F:VFact):Fact:=λJ w=>match J with | [v]=>F v w | _=>False
theorem usteps_steps{P:Program}{a:Act}{w0:GS}{Fs:List VFact}{sh:List Shape}{L0:List Oper}(d:Ee L0 sh=true)(xq:∀(k:Nat) (x:Shape),sh[k]? = some x->x.deps=[k]) :
  ∀{L:List Oper} {z:List (List (Nat×Nat))} {bs:List (List Nat)} {T:List VFact} {i:Nat},(∀k,L[k]? = L0[i+k]?)->(∀k,(Gq i z bs)[k]? = sh[i+k]?)->z.length=bs.length->USteps P Fs a w0 L z T ->
   StepsAt P sh (Fs.map unF) a w0 i L (Gq i z bs) (T.map unF)
 |L,[],[],[],i,_,_,_,_=>by cases L<;>exact trivial
 |L,[],[],_::_,i,_,_,_,h=>by cases L<;>exact h.elim
 |L,[],_::_,T,i,_,_,K,h=>by simp at K
 |L,_::_,[],T,i,_,_,K,h=>by simp at K
 |[],_::_,_::_,T,i,_,_,_,h=>by cases T<;>exact h.elim
 |_::_,_::_,_::_,[],i,_,_,_,h=>h.elim
 |o::L,e::z,b::bs,F::T,i,H,u,K,h=>Zaj
theorem wp_region_u{L:List Oper}(A:wpAny P .any L.toArray vS L.toArray.size (Array.replicate L.toArray.size false) vl s.dr.w->vJ)(z:List (List (Nat×Nat)))(O:List (List Nat))(R:List VFact)
  (o:(z.length==O.length&&z.length==R.length)=true) (B:Ee L (Gq 0 z O)=true) (d:Ia L z.length vl.tmps.size=true)
  (t:∀F∈R,∀v E K,GS.Le E K->F v E->F v K) (V:USteps P R vl s.dr L z R)
  (W:∀(g:Nat->Value) (N:GS),GS.Le s.dr N->(∀(j:Nat) (F:VFact),R[j]? = some F->F (g j) N)->wpList P L.toArray vS (L.drop z.length) (FH g (L.take z.length) 0 vl) N.w) :
  vJ:=Zak
def Stab(F:VFact):Prop:=∀v k N,GS.Le k N->F v k->F v N
def StabAll:List VFact->Prop
 |[]=>True
 |F::r=>Stab F/\StabAll r
theorem StabAll.mem:∀{R:List VFact},StabAll R->∀F∈R,Stab F
 |[],_,F,h=>by cases h
 |G::r,h,F,hF=>Zal
theorem wp_region_v{L:List Oper}{w:GS}(v:wpAny P .any L.toArray vS L.toArray.size (Array.replicate L.toArray.size false) vl w.dr.w->vJ)(z:List (List (Nat×Nat)))(x:List (List Nat))(R:List VFact)
  (o:(z.length==x.length&&z.length==R.length)=true) (C:Ee L (Gq 0 z x)=true) (d:Ia L z.length vl.tmps.size=true) (stab:StabAll R) (steps:USteps P R vl w.dr L z R)
  (fin:∀(g:Nat->Value) (N:GS),GS.Le w.dr N->(∀(j:Nat) (F:VFact),R[j]? = some F->F (g j) N)->wpList P L.toArray vS (L.drop z.length) (FH g (L.take z.length) 0 vl) N.w) :
  vJ:=
 wp_region_u v z x R o C d (λF hF=>stab.mem F hF) steps fin
end RegG
theorem Kq(s:GS):GS.Le s s.dr:=GS.Le.heap ((Ext.refl _).drew) rfl
structure OD where
 rel:GS->Value->Prop
 blk:GS->Value->Nat->Prop
 lt:∀{s:GS} {v:Value} {b:Nat},rel s v->blk s v b->b<s.w.heap.size
 keep:∀{s s':GS} {v:Value},rel s v->GS.Chg s s'->(∀b,blk s v b->s'.w.heap[b]? = s.w.heap[b]? /\ ∀k,s'.S b k↔s.S b k)->rel s' v/\∀b,blk s' v b->blk s v b
inductive AV
 |d (x:D)
 |ptr (id off:Nat)
 |own (id:Nat)
 |fn (f:FuncId) (caps:List Nat)
instance:Inhabited AV:=⟨.d Cs⟩
inductive Ow
 |dead
 |var (T:TypeId) (cells:List AV)
 |row (T:TypeId) (sz:Nat) (rows:List (List D))
 |obj (O:OD)
 |pin (l:List (Value×AV))
instance:Inhabited Ow:=⟨.dead⟩
structure AS where
 fr:List (Nat×AV)
 hp:List Ow
def Ce:List (Nat×AV)->Nat->Option AV
 |[],_=>none
 |(a,v)::r,t=>bif Nat.beq a t then some v else Ce r t
theorem Fj:∀{l:List (Nat×AV)} {t:Nat} {G:AV},Ce l t=some G->(t,G)∈l
 |[],_,_,h=>by cases h
 |(a,v)::r,t,G,h=>by
  unfold Ce at h
  cases E:Nat.beq a t with
  |true=>
   rw[E]at h;have W:a=t:=Yan E;have o:v=G:=Yag h;subst W;subst o;exact Ybk
  |false=>
   rw[E]at h;exact Ybc _ (Fj h)
def DR:Value->Option Nat
 |.pointer (some a)=>some a.block
 |.slice (some a) _ _=>some a.block
 |_=>none
def fnV(f:FuncId)(J:List Value):Value:=bif Nat.blt f 1000000 then .func (.func f) #[] J.toArray else .func (.func (f-1000000)) J.toArray #[]
def AVr(m:Nat)(V:Nat->Value)(s:GS):AV->Value->Prop
 |.d x,v=>x.rel s v
 |.ptr id off,v=>id<m/\∃b,V id=.pointer (some ⟨b,0,none⟩)/\v=.pointer (some ⟨b,off,none⟩)
 |.own id,v=>id<m/\v=V id
 |.fn f J,v=>(∀i∈J,i<m)/\v=fnV f (J.map V)
variable{h:AV}
theorem AVr.chg{m:Nat}{ρ:Nat->Value}{s s':GS}{v:Value}(q:AVr m ρ s h v)(G:GS.Chg s s'):AVr m ρ s' h v:=by
 cases h with
 |d x=>exact x.st q G
 |ptr id off=>exact q
 |own id=>exact q
 |fn f J=>exact q
theorem AVr.mono{m F:Nat}{v:Value}(q:AVr m vh s h v)(C:m<=F)(M:∀i,i<m->ub i=vh i):AVr F ub s h v:=by
 cases h with
 |d x=>exact q
 |ptr id off=>
  obtain⟨A,b,B,K⟩:=q;exact⟨Yaq A C,b,(M id A).trans B,K⟩
 |own id=>exact⟨Yaq q.1 C,q.2.trans (M id q.1).symm⟩
 |fn f E=>exact⟨λi J=>Yaq (q.1 i J) C,by rw[q.2,YaS λi J=>(M i (q.1 i J)).symm]⟩
def OwR(base m:Nat)(V:Nat->Value)(s:GS)(i:Nat):Ow->Prop
 |.dead=>True
 |.var T cells=>∃(b:Nat) (f:Array Value),V i=.pointer (some ⟨b,0,none⟩)/\base<=b/\s.w.heap[b]? = some (.cells f T (0,0))/\f.size=cells.length/\T≠335/\(∀k,¬s.S b k)/\∀(k:Nat) av,cells[k]? = some av->∃u:Value,f[k]? = some u/\u.oneCell'=true/\AVr m V s av u
 |.row T q B=>∃A:List Value,s.w.ownsRow base T q (V i) B.length A/\T≠335/\0<q/\(∀b,DR (V i)=some b->∀k,s.S b k↔k<B.length*q)/\∀k,k<B.length->(B.getD k []).length=q/\∀j,j<q->∃u,A[k*q+j]? = some u/\u.oneCell'=true/\(Dd (B.getD k []) j).rel s u
 |.obj O=>O.rel s (V i)
 |.pin l=>∀p∈l,AVr m V s p.2 p.1
def OwB(s:GS)(v:Value):Ow->Nat->Prop
 |.dead,_=>False
 |.var _ _,b=>DR v=some b
 |.row _ _ _,b=>DR v=some b
 |.obj O,b=>O.blk s v b
 |.pin _,_=>False
variable{vs:Ow}
theorem OwR.blk_lt0{base m:Nat}{i:Nat}(h:OwR base m vh s i vs){b:Nat}(E:OwB s (vh i) vs b):b<s.w.heap.size:=by
 cases vs with
 |dead=>exact E.elim
 |pin l=>exact E.elim
 |obj O=>exact O.lt h E
 |var T cells=>
  obtain⟨g,f,q,A,K,_⟩:=h;replace E:DR (vh i)=some b:=E;rw[q]at E;cases E;exact Bv K
 |row T B C=>
  obtain⟨j,⟨q,A⟩,_⟩:=h;replace E:DR (vh i)=some b:=E;rcases A with⟨W,_⟩ | ⟨g,cap,cur,W,e2,e3,_⟩
  .rw [W]at E;cases E
  .rw [W]at E;cases E;exact Bv e3
theorem OwB.keep{s s':GS}(h:OwR n b vh s T vs)(G:GS.Chg s s')(E:∀m,OwB s (vh T) vs m->s'.w.heap[m]? = s.w.heap[m]? /\ ∀k,s'.S m k↔s.S m k)(C:OwB s' (vh T) vs m):OwB s (vh T) vs m:=by
 cases vs with
 |obj O=>exact(O.keep h G E).2 m C
 |_=>exact C
theorem OwB.le{base m:Nat}{ρ:Nat->Value}{s s':GS}{i:Nat}{o:Ow}(h:OwR base m ρ s i o)(I:GS.Le s s'){b:Nat}(C:OwB s' (ρ i) o b):OwB s (ρ i) o b:=
 OwB.keep h I.chg (λc G=>have O:=h.blk_lt0 G;⟨I.ext.block O,λk=>⟨I.old c k O,I.up c k⟩⟩) C
theorem OwR.le{base m:Nat}{ρ:Nat->Value}{s s':GS}{i:Nat}{o:Ow}(h:OwR base m ρ s i o)(I:GS.Le s s'):OwR base m ρ s' i o:=by
 cases o with
 |dead=>trivial
 |var T cells=>
  obtain⟨b,f,q,A,K,Q,J,M,V⟩:=h;refine⟨b,f,q,A,(I.ext.block (Bv K)).trans K,Q,J,λk B=>M k (I.old b k (Bv K) B),λk S B=>?_⟩;obtain⟨u,x,Z,a⟩:=V k S B;exact⟨u,x,Z,a.chg I.chg⟩
 |row T L N=>
  obtain⟨Y,⟨q,A⟩,K,Q,J,M⟩:=h;refine⟨Y,⟨q,?_⟩,K,Q,λb E k=>?_,λk B=>⟨(M k B).1,λj X=>?_⟩⟩
  .rcases A with A | ⟨g,cap,cur,W,e2,e3,e4⟩
   .exact .inl A
   .exact .inr ⟨g,cap,cur,W,e2,(I.ext.block (Bv e3)).trans e3,e4⟩
  .have C:b<s.w.heap.size:=by
    rcases A with⟨W,_⟩ | ⟨g,cap,cur,W,e2,e3,e4⟩
    .rw [W]at E;cases E
    .rw [W]at E;cases E;exact Bv e3
   exact⟨λB=>(J b E k).1 (I.old b k C B),λB=>I.up b k ((J b E k).2 B)⟩
  .obtain ⟨u,x,Z,a⟩:=(M k B).2 j X
   exact⟨u,x,Z,(Dd _ j).st a I.chg⟩
 |obj O=>exact(O.keep h I.chg λc G=>have C:=O.lt h G;⟨I.ext.block C,λk=>⟨I.old c k C,I.up c k⟩⟩).1
 |pin l=>exact λp F=>(h p F).chg I.chg
def HpOk(base:Nat)(V:Nat->Value)(s:GS)(F:List Ow):Prop:=∀i o,F[i]? = some o->OwR base F.length V s i o
theorem HpOk.le{ρ:Nat->Value}{s s':GS}{hp:List Ow}(h:HpOk n ρ s hp)(I:GS.Le s s'):HpOk n ρ s' hp:=λi o J=>(h i o J).le I
def HO(hp:List Ow):AV->Option D
 |.d x=>some x
 |.own id=>match hp[id]? with
  |some (.row T l B)=>some (slD T l B)
  |_=>none
 |.ptr _ _=>none
 |.fn _ _=>none
variable{r:D}
theorem DV{base:Nat}{ρ:Nat->Value}{hp:List Ow}{av:AV}{v:Value}(n:HpOk base ρ s hp)(h:AVr hp.length ρ s av v)(C:HO hp av=some r):r.rel s v:=by
 cases av with
 |d y=>cases C;exact h
 |ptr id off=>cases C
 |fn f J=>cases C
 |own id=>
  obtain rfl:v=ρ id:=h.2
  replace C:(match hp[id]? with
   |some (.row T l G)=>some (slD T l G)
   |_=>none)=some r:=C
  split at C
  .rename_i T l G b
   cases C;obtain⟨I,⟨q,A⟩,K,Q,E,F⟩:=n id _ b;rcases A with⟨W,o⟩ | ⟨g,cap,cur,W,o,e3,e4,e5,e6,e7⟩
   .rw [W]
    exact⟨none,0,by rw[o],by omega,by omega,λc=>by omega⟩
   .rw [W]
    refine⟨_,cap,rfl,e4,by simpa[maxLen]using e5,λc=>⟨g,0,rfl,λk B=>⟨(F k B).1,cur,(0,0),e3,λj X=>?_⟩⟩⟩;rw[(F k B).1]at X;obtain⟨u,x,S,L⟩:=(F k B).2 j X
    have O:k*l+j<G.length*l:=by
     have:(k+1)*l<=G.length*l:=YaC l B;exact Zhm
    refine⟨by rw[YaH];exact(E g (by rw[W];rfl) _).2 O,u,?_,S,L⟩;rw[YaH,<-x,<-e7,YaK,Yao O];simp
  .cases C
def AS.arg(σ:AS):Operand->AV
 |.tmp t=>(Ce σ.fr t).getD (.d Cs)
 |.const v=>.d (ex v)
 |.global g=>.d (ex (.pointer (some ⟨g,0,none⟩)))
 |.func f=>.d (ex (.func (.func f) #[] #[]))
def AS.put(σ:AS)(dst:Option Tmp)(r:AV):AS:=
 match dst with
 |some d=>{ σ with fr:=(d,r)::σ.fr }
 |none=>σ
structure GS.LeX(mine:Nat->Prop)(s s':GS):Prop where
 os:s'.w.os=s.w.os
 tape:s'.w.tape=s.w.tape
 output:s'.w.output=s.w.output
 block:∀k,k<s.w.heap.size->¬mine k->s'.w.heap[k]? = s.w.heap[k]?
 chg:GS.Chg s s'
 old:∀b k,b<s.w.heap.size->¬mine b->s'.S b k->s.S b k
 tag:∀b,b<s.w.heap.size->s'.tag b=s.tag b
 ok:s.Ok->s'.Ok
theorem GS.LeX.size{mine:Nat->Prop}{s s':GS}(h:GS.LeX mine s s'):s.w.heap.size<=s'.w.heap.size:=h.chg.size
theorem GS.LeX.refl(t:Nat->Prop)(s:GS):GS.LeX t s s:=⟨rfl,rfl,rfl,λ_ _ _=>rfl,GS.Chg.refl s,λ_ _ _ _ h=>h,λ_ _=>rfl,λh=>h⟩
theorem GS.LeX.trans{mine:Nat->Prop}{a b c:GS}(h:GS.LeX mine a b)(k:GS.Le b c):GS.LeX mine a c:=
 ⟨k.ext.os.trans h.os,k.ext.tape.trans h.tape,k.ext.output.trans h.output,λx C v=>(k.ext.block (Yaq C h.size)).trans (h.block x C v),h.chg.trans k.chg,λx j C v q=>h.old x j C v (k.old x j (Yaq C h.size) q),λx C=>(k.tag x (Yaq C h.size)).trans (h.tag x C),λq=>k.ok (h.ok q)⟩
theorem GS.LeX.le{s s':GS}{mine:Nat->Prop}(v:∀b,¬mine b)(h:GS.LeX mine s s'):GS.Le s s':=
 ⟨⟨h.os,h.tape,h.output,h.size,λk B=>h.block k B (v k)⟩,h.chg.up,λb k E=>h.old b k E (v b),h.tag,h.ok⟩
structure An where
 g:GS
 mine:Nat->Prop
 df:List Deferred
theorem GS.LeX.turn{s0:An}{s s':GS}(h:GS.LeX s0.mine s0.g s){g:Nat}(R:s0.mine g\/s0.g.w.heap.size<=g)(q:s'.w.os=s.w.os)(A:s'.w.tape=s.w.tape)(K:s'.w.output=s.w.output)(Q:∀b,b<s.w.heap.size->b≠g->s'.w.heap[b]? = s.w.heap[b]? /\ ∀k,s'.S b k->s.S b k)(G:GS.Chg s s')(L:∀b,b<s.w.heap.size->s'.tag b=s.tag b)(C:s.Ok->s'.Ok):GS.LeX s0.mine s0.g s':=
 ⟨q.trans h.os,A.trans h.tape,K.trans h.output,λk B v=>(Q k (Yaq B h.size) λe=>by subst e;exact R.elim v (λF=>absurd B ZbC)).1.trans (h.block k B v),h.chg.trans G,λb k E v a=>h.old b k E v ((Q b (Yaq E h.size) λe=>by subst e;exact R.elim v (λF=>absurd E ZbC)).2 k a),λb E=>(L b (Yaq E h.size)).trans (h.tag b E),λF=>C (h.ok F)⟩
structure StI(s0:An)(n:Nat)(σ:AS)(a:Act)(s:GS)(ρ:Nat->Value):Prop where
 le:GS.LeX s0.mine s0.g s
 ok:s.Ok
 fr:∀t av,Ce σ.fr t=some av->AVr σ.hp.length ρ s av (a.tmps.getD t undef)
 sz:a.tmps.size=n
 df:a.defers=s0.df
 hp:HpOk 0 ρ s σ.hp
 sep:∀i j o o',i≠j->σ.hp[i]? = some o->σ.hp[j]? = some o'->∀b,OwB s (ρ i) o b->¬OwB s (ρ j) o' b
 own:∀i o b,σ.hp[i]? = some o->OwB s (ρ i) o b->s0.mine b\/s0.g.w.heap.size<=b
def St(s0:An)(n:Nat)(e:AS)(a:Act)(w:World):Prop:=∃(s:GS) (V:Nat->Value),s.w=w/\StI s0 n e a s V
theorem StI.arg{s0:An}{σ:AS}(h:StI s0 n σ vl s vh)(x:Operand):AVr σ.hp.length vh s (σ.arg x) (vl.eval x):=by
 cases x with
 |tmp t=>
  show AVr σ.hp.length vh s ((Ce σ.fr t).getD (.d Cs)) (vl.tmps.getD t undef)
  cases I:Ce σ.fr t with
  |none=>exact trivial
  |some G=>exact h.fr t G I
 |const v=>exact rfl
 |global g=>exact rfl
 |func f=>exact rfl
theorem CX(t u:Nat)(G:AV)(l:List (Nat×AV)):Ce ((t,G)::l) u=if t=u then some G else Ce l u:=by
 show(bif Nat.beq t u then some G else Ce l u)=_
 cases E:Nat.beq t u with
 |true=>rw[Yao (Yan E)];rfl
 |false=>rw[Yaj (YaJ E)];rfl
theorem StI.put{s0:An}{σ:AS}{a:Act}{s s':GS}(h:StI s0 n σ a s vh)(I:GS.Le s s'){dst:Option Tmp}(q:∀d,dst=some d->d<n){v:Value}{r:AV}(Y:AVr σ.hp.length vh s' r v):StI s0 n (σ.put dst r) (a.put dst v) s' vh:=by
 refine⟨h.le.trans I,I.ok h.ok,λt G L=>?_,?_,?_,?_,?_,?_⟩
 .cases dst with
  |none=>exact(h.fr t G L).chg I.chg
  |some d=>
   simp only[AS.put,CX]at L;simp only[Act.put];by_cases A:d=t
   .rw [Yao A]at L
    cases L;subst A;have:d<a.tmps.size:=by rw[h.sz];exact q d rfl
    simp[this];exact Y
   .rw [Yaj A]at L
    have:=(h.fr t G L).chg I.chg;rw[YaA]at this ⊢;rwa [YaP A]
 .unfold Act.put;split<;>simp[h.sz]
 .unfold Act.put;split<;>simp[h.df]
 .cases dst<;>exact h.hp.le I
 .have key:∀i j o x,i≠j->σ.hp[i]? = some o->σ.hp[j]? = some x->∀b,OwB s' (vh i) o b->¬OwB s' (vh j) x b:=λi j o x S J X b E F=>h.sep i j o x S J X b (OwB.le (h.hp i o J) I E) (OwB.le (h.hp j x X) I F)
  cases dst<;>exact key
 .have key:∀i o b,σ.hp[i]? = some o->OwB s' (vh i) o b->s0.mine b\/s0.g.w.heap.size<=b:=λi o b J E=>h.own i o b J (OwB.le (h.hp i o J) I E)
  cases dst<;>exact key
structure Quiet(P:Program)(hp:List Ow)(o:Oper)(arg:Operand->AV)(r:AV):Prop where
 run:∀(base:Nat) (s:GS) (ρ:Nat->Value) (ev:Operand->Value),s.Ok->base<=s.w.heap.size->HpOk base ρ s hp->(∀x,x∈o.op.operands->AVr hp.length ρ s (arg x) (ev x)) ->
  RegG.OpStep P o ev s λv s'=>GS.Le s s'/\AVr hp.length ρ s' r v
theorem BW{o:Oper}{ev:Operand->Value}{R:Value->GS->Prop}{v:Value}(h:(execOp ev o).run P s.w=.ok (.value v) s.w)(E:R v s):RegG.OpStep P o ev s R:=by
 unfold RegG.OpStep;rw[h];exact⟨s,rfl,E⟩
theorem Jp{ev:Operand->Value}{R:Value->GS->Prop}{v:Value}(h:(execOp ev va).run P s.w=.ok (.value v) w)(s':GS)(c:s'.w=w)(E:R v s'):RegG.OpStep P va ev s R:=by
 unfold RegG.OpStep;rw[h];exact⟨s',c,E⟩
structure Tab(P:Program)(t:TypeId)(d:TypeDesc)(n bytes:Nat)(z:Value):Prop where
 und:P.underlying t=some d
 inf:(P.info? t).map (λi=>(i.zero,i.size,i.bytes))=some (some z,n,bytes)
theorem Tab.info(h:Tab P t d n b z):∃i,P.info? t=some i/\i.zero=some z/\i.size=n/\i.bytes=b:=by
 have:=h.inf
 cases J:P.info? t with
 |none=>rw[J]at this;cases this
 |some i=>
  rw[J]at this;simp only[Ydd,YcS,YeF]at this;exact⟨i,rfl,this.1,this.2.1,this.2.2⟩
theorem Tab.run_size(h:Tab P t d n b z)(w:World):(sizeOf t).run P w=.ok n w:=by
 obtain⟨i,q,_,A,_⟩:=h.info;simp[sizeOf,typeInfo,q,A]
theorem Tab.run_zero(h:Tab P t d n b z)(w:World):(zeroValue t).run P w=.ok z w:=by
 obtain⟨i,q,A,_⟩:=h.info;simp[zeroValue,typeInfo,q,A]
def ES:TypeDesc->Bool
 |.struct _ |.array _ _=>true
 |_=>false
theorem Tab.run_agg(h:Tab P t d n b z)(w:World):(isAgg t).run P w=.ok (ES d) w:=by
 unfold isAgg;rw[Sem.run_bind,run_underlying h.und w];cases d<;>simp[ES]
theorem exD{u v:Value}(h:AVr n vh s (.d (ex u)) v):v=u:=h
section
variable {P:Program} {hp:List Ow} {o:Oper} {arg:Operand->AV}
theorem Quiet.move(F:o.op=.move x\/o.op=.assign x)(C:arg x=h):Quiet P hp o arg h:=by
 subst C;refine⟨λbase s V i B v Z q=>?_⟩;rcases F with F | F
 all_goals
  have A:=q x ZcQ;exact BW (v:=i x) (by simp[execOp,F]) ⟨GS.Le.refl s,A⟩
theorem CO {a b v : Value} (F : o.op = .binOp vW t x y U) (C : arg x = .d (ex a)) (M : arg y = .d (ex b)) (Y : ∀ w, (do eqGuard vW t x y a b; binOp vW t a b : Sem Value).run P w = .ok v w) : Quiet P hp o arg (.d (ex v)) := by
 refine⟨λbase s V i E G Z h=>?_⟩;have q:=h x ZcQ;have A:=h y ZcQ;rw[C]at q;rw[M]at A;have W:i x=a:=q;have B:i y=b:=A;have:=Y s.w;refine BW (v:=v) ?_ ⟨GS.Le.refl s,rfl⟩;simp only[execOp,F,W,B,Sem.run_bind,this,Result.andThen_ok,Sem.run_pure]
theorem Quiet.add{T U:TypeId}(F:o.op=.binOp .add T x y U)(C:arg x=.d (eI a))(M:arg y=.d (eI j))(q:-9223372036854775808<=a+j)(A:a+j<=9223372036854775807):Quiet P hp o arg (.d (eI (a+j))):=
 CO F C M λw=>by
  have e:IntKind.i64.wrap (a+j)=a+j:=IntWalk.i64_in _ ZbC;exact ZjM
theorem Quiet.sub(F:o.op=.binOp .sub t x y U)(C:arg x=.d (eI a))(M:arg y=.d (eI j))(q:-9223372036854775808<=a-j)(A:a-j<=9223372036854775807):Quiet P hp o arg (.d (eI (a-j))):=
 CO F C M λw=>by
  have e:IntKind.i64.wrap (a-j)=a-j:=IntWalk.i64_in _ ZbC;exact ZjM
theorem Quiet.mul{T U:TypeId}(F:o.op=.binOp .mul T x y U)(C:arg x=.d (eI a))(M:arg y=.d (eI j))(q:-9223372036854775808<=a*j)(A:a*j<=9223372036854775807):Quiet P hp o arg (.d (eI (a*j))):=
 CO F C M λw=>by
  have e:IntKind.i64.wrap (a*j)=a*j:=IntWalk.i64_in _ ZbC;exact ZjM
def Zg:BinOp->Int->Int->Option Bool
 |.eql,a,b=>some (a==b)
 |.neq,a,b=>some (a != b)
 |.lss,a,b=>some (decide (a<b))
 |.leq,a,b=>some (decide (a<=b))
 |.gtr,a,b=>some (decide (a>b))
 |.geq,a,b=>some (decide (a ≥ b))
 |_,_,_=>none
theorem PO{c:Bool}(F:o.op=.binOp vW t x y U)(C:arg x=.d (ex (.int i a)))(M:arg y=.d (ex (.int i j)))(G:Zg vW a j=some c):Quiet P hp o arg (.d (eB c)):=
 CO F C M λw=>by
  cases vW<;>simp[Zg]at G<;>subst G<;>simp[eqGuard,binOp,Op.intCmp]
theorem Quiet.not{a:Bool}(F:o.op=.unOp .not t x)(C:arg x=.d (eB a)):Quiet P hp o arg (.d (eB (!a))):=by
 refine⟨λbase s V i A v Z h=>?_⟩;have q:=h x ZcQ;rw[C]at q;have W:i x=.bool a:=q;exact BW (v:=.bool (!a)) (by simp[execOp,F,W,Op.unary]) ⟨GS.Le.refl s,rfl⟩
theorem QF(F:o.op=.pick x y vT)(C:arg y=h)(G:arg x=.d (eB true)):Quiet P hp o arg h:=by
 subst C;refine⟨λbase s V i E v Z q=>?_⟩;have A:=q x ZcQ;have B:=q y ZcQ;rw[G]at A;have W:i x=.bool true:=A;exact BW (v:=i y) (by simp[execOp,F,W,asBool]) ⟨GS.Le.refl s,B⟩
theorem QG(F:o.op=.pick x y vT)(M:arg vT=h)(G:arg x=.d (eB false)):Quiet P hp o arg h:=by
 subst M;refine⟨λbase s V i C v Z q=>?_⟩;have A:=q x ZcQ;have B:=q vT ZcQ;rw[G]at A;have W:i x=.bool false:=A;exact BW (v:=i vT) (by simp[execOp,F,W,asBool]) ⟨GS.Le.refl s,B⟩
theorem Tj{k B:IntKind}(F:o.op=.convert t U x)(C:arg x=.d (ex (.int k a)))(p:Tab P t d n b z)(e:Tab P U (.int B) T m u):Quiet P hp o arg (.d (ex (.int B (B.wrap a)))):=by
 refine⟨λbase s V i A v Z h=>?_⟩;have q:=h x ZcQ;rw[C]at q;have W:i x=.int k a:=q;refine BW (v:=.int B (B.wrap a)) ?_ ⟨GS.Le.refl s,rfl⟩;simp[execOp,F,W,convert,run_underlying p.und,run_underlying e.und,Conv.intToInt]
theorem Quiet.len{e n b T l:Nat}(F:o.op=.call { callee:=.builtin .len,args:=#[x],argTypes:=#[t] })(C:HO hp (arg x)=some (slD T l vk))(L:Tab P t (.slice e) n b z):Quiet P hp o arg (.d (eI vk.length)):=by
 refine⟨λbase s V i E v Z h=>?_⟩;have q:=DV Z (h x Zdu) C;obtain⟨A,c,W,B⟩:=q;refine BW (v:=.int .i64 vk.length) ?_ ⟨GS.Le.refl s,rfl⟩;simp[execOp,F,resolve,invoke,builtin,W,Builtin.len_,run_underlying L.und,goInt]
theorem Quiet.index(Y:o.op=.indexAddr t x y)(E:HO hp (arg x)=some (slD k f vk))(M:arg y=.d (ex (.int i a)))(L:Tab P t (.slice n) b T z)(F:Tab P n d m c u)(v:m=f)(G:0<=a)(J:a<vk.length):Quiet P hp o arg (.d (Fk k (vk.getD a.toNat []))):=by
 refine⟨λbase s V I X e Z h=>?_⟩;have q:=DV Z (h x (by rw[Y];simp[Op.operands])) E;have B:=h y (by rw[Y];simp[Op.operands]);rw[M]at B;have O:I y=.int i a:=B;obtain⟨A,C,W,K,Q,N⟩:=q;obtain⟨g,p,rfl,S⟩:=N ZbC;subst v;refine BW (v:=.pointer (some ⟨g,p+a.toNat*m,none⟩)) ?_ ⟨GS.Le.refl s,g,_,rfl,(S a.toNat ZbC).2⟩;simp[execOp,Y,W,O,Instr.indexAt,asIntOf,run_underlying L.und,G,J,F.run_size,Addr.add_lit]
theorem OE(N:o.op=.indexAddr t x y)(C:arg x=.d (Fk k v))(M:arg y=.d (ex (.int i a)))(L:Tab P t (.array f n) b T z)(B:Tab P n d m c u)(E:0<=a)(J:a<f):Quiet P hp o arg (.d (Fk k (v.drop (a.toNat*m)))):=by
 refine⟨λbase s V F I O Z h=>?_⟩;have q:=h x Zeg;have A:=h y Zeg;rw[C]at q;rw[M]at A;have G:F y=.int i a:=A;obtain⟨g,p,W,K⟩:=q;refine BW (v:=.pointer (some ⟨g,p+a.toNat*m,none⟩)) ?_ ⟨GS.Le.refl s,g,_,rfl,K.drop _⟩;exact ZjN
theorem OC(N:o.op=.indexAddr t x y)(C:arg x=.ptr f vj)(M:arg y=.d (ex (.int i a)))(L:Tab P t (.array k n) b T z)(B:Tab P n d m c u)(E:0<=a)(J:a<k):Quiet P hp o arg (.ptr f (vj+a.toNat*m)):=by
 refine⟨λbase s V F I v Z h=>?_⟩;have q:=h x Zeg;have A:=h y Zeg;rw[C]at q;rw[M]at A;have G:F y=.int i a:=A;obtain⟨O,g,K,W⟩:=q;refine BW (v:=.pointer (some ⟨g,vj+a.toNat*m,none⟩)) ?_ ⟨GS.Le.refl s,O,g,K,rfl⟩;exact ZjN
theorem OF(G:o.op=.fieldAddr t x n)(C:arg x=.d (Fk k v))(I:Tab P t (.struct vV) b T z)(E:vV[n]? = some uc)(A:Tab P uc.type d m c u)(B:m≠0):Quiet P hp o arg (.d (Fk k (v.drop uc.offset))):=by
 refine⟨λbase s V i F J Z h=>?_⟩;have q:=h x Zef;rw[C]at q;obtain⟨g,p,W,K⟩:=q;refine BW (v:=.pointer (some ⟨g,p+uc.offset,none⟩)) ?_ ⟨GS.Le.refl s,g,_,rfl,K.drop _⟩;simp[execOp,G,W,Instr.fieldAt,Instr.sureAddr,run_underlying I.und,E,fieldPlace,A.run_size,B,Addr.add_lit]
theorem Xl(F:o.op=.fieldAddr t x n)(C:arg x=.ptr k f)(G:Tab P t (.struct vV) b T z)(p:vV[n]? = some uc)(A:Tab P uc.type d m c u)(B:m≠0):Quiet P hp o arg (.ptr k (f+uc.offset)):=by
 refine⟨λbase s V i E v Z h=>?_⟩;have q:=h x ZcQ;rw[C]at q;obtain⟨y,g,K,W⟩:=q;refine BW (v:=.pointer (some ⟨g,f+uc.offset,none⟩)) ?_ ⟨GS.Le.refl s,y,g,K,rfl⟩;simp[execOp,F,W,Instr.fieldAt,Instr.sureAddr,run_underlying G.und,p,fieldPlace,A.run_size,B,Addr.add_lit]
theorem Lr(L:Tab P t d n b z)(q:ES d=true)(g p:Nat)(f:Nat->Value)(h:∀j,j<n->w.cell? ⟨g,p+j,none⟩=some (f j)):(loadVar t ⟨g,p,none⟩).run P w=.ok (.agg ((List.range n).map f).toArray) w:=by
 have:=run_loadCells (P:=P) w ⟨g,p,none⟩ n f λj X=>by rw[Addr.add_lit];exact h j X
 simp[loadVar,L.run_agg,q,L.run_size,this]
theorem LY(J:o.op=.load t x)(C:arg x=.d (Fk T v))(L:Tab P t d n b z)(A:ES d=true)(E:n<=v.length):Quiet P hp o arg (.d (AP (v.take n))):=by
 refine⟨λbase s V i I M Z h=>?_⟩;have q:=h x (by rw[J];simp[Op.operands]);rw[C]at q;obtain⟨g,p,W,K⟩:=q
 have G:∀j,∃u,j<n->s.w.cell? ⟨g,p+j,none⟩=some u/\u.oneCell'=true/\(Dd v j).rel s u:=λj=>by
  by_cases X:j<n
  .obtain ⟨u, Q⟩:=K.cell (k:=j) ZbC
   exact⟨u,λ_=>Q⟩
  .exact ZjO
 obtain⟨f,F⟩:∃f:Nat->Value,∀j,j<n->s.w.cell? ⟨g,p+j,none⟩=some (f j)/\(f j).oneCell'=true/\(Dd v j).rel s (f j):=⟨λj=>(G j).choose,λj X=>(G j).choose_spec X⟩;have Y:=Lr L A g p f λj X=>(F j X).1;refine BW (v:=.agg ((List.range n).map f).toArray) ?_ ⟨GS.Le.refl s,_,rfl,by simp;omega,λk B=>?_⟩
 .simp [execOp,J,W,Instr.loadAt,Instr.sureAddr,Y]
 .rw [YaO]at B
  have O:k<n:=by omega
  rw[LP O];exact⟨f k,by simp[O],(F k O).2⟩
theorem OA(G:o.op=.load t x)(C:arg x=.d (Fk T v))(L:Tab P t d n b z)(A:ES d=false)(B:0<v.length):Quiet P hp o arg (.d (Dd v 0)):=by
 refine⟨λbase s V i F I Z h=>?_⟩;have q:=h x Zef;rw[C]at q;obtain⟨g,p,W,K⟩:=q;obtain⟨u,Q,k,E⟩:=K.cell B;refine BW (v:=u) ?_ ⟨GS.Le.refl s,E⟩;simp at Q;simp[execOp,G,W,Instr.loadAt,Instr.sureAddr,loadVar,L.run_agg,A,Q]
variable{R:List AV}
theorem Oz(I:o.op=.load t x)(C:arg x=.ptr m c)(M:hp[m]? = some (.var T R))(L:Tab P t d n b z)(B:ES d=false)(G:R[c]? = some h):Quiet P hp o arg h:=by
 refine⟨λbase s V i F O Z q=>?_⟩;have A:=q x (by rw[I];simp[Op.operands]);rw[C]at A;obtain⟨-,g,K,W⟩:=A;obtain⟨a,f,Q,k,E,J,N,S,X⟩:=Z m _ M;rw[K]at Q;cases Q;obtain⟨u,v,p,Y⟩:=X c h G;refine BW (v:=u) ?_ ⟨GS.Le.refl s,Y⟩;have:s.w.cell? ⟨g,c,none⟩=some u:=(CU E).trans v;simp[execOp,I,W,Instr.loadAt,Instr.sureAddr,loadVar,L.run_agg,B,this]
def A19(hp:List Ow):List AV->Option (List D)
 |[]=>some []
 |a::r=>match HO hp a,A19 hp r with
  |some x,some l=>some (x::l)
  |_,_=>none
theorem Td{hp:List Ow}:∀{l:List AV} {S:List D},A19 hp l=some S->l.length=S.length/\∀(k:Nat) G,l[k]? = some G->HO hp G=some (Dd S k)
 |[],S,h=>by cases h;exact⟨rfl,λk G B=>by cases B⟩
 |a::r,S,h=>by
  unfold A19 at h;split at h
  .rename_i x l q A
   cases h;obtain⟨K,Q⟩:=Td A;refine⟨by simp[K],λk G B=>?_⟩
   cases k with
   |zero=>cases B;exact q
   |succ k=>exact Q k G ZcZ
  .cases h
theorem ZG(Z:o.op=.load t x)(C:arg x=.ptr m c)(e:hp[m]? = some (.var T R))(L:Tab P t d n b z)(A:ES d=true)(G:A19 hp ((R.drop c).take n)=some v)(F:c+n<=R.length):Quiet P hp o arg (.d (AP v)):=by
 refine⟨λbase s V i S xb H h=>?_⟩;have q:=h x (by rw[Z];simp[Op.operands]);rw[C]at q;obtain⟨-,g,K,W⟩:=q;obtain⟨g',E,Q,J,N,a,l,w,y⟩:=H m _ e;rw[K]at Q;cases Q;obtain⟨I,M⟩:=Td G;have r:v.length=n:=by rw[<-I];exact ZiI
 have key:∀j,∃u,j<n->s.w.cell? ⟨g,c+j,none⟩=some u/\u.oneCell'=true/\(Dd v j).rel s u:=λj=>by
  by_cases X:j<n
  .have O:c+j<R.length:=by omega
   obtain⟨u,U,xa,xc⟩:=y (c+j) _ (Yab O);refine⟨u,λ_=>⟨(CU N).trans U,xa,?_⟩⟩;refine DV H xc (M j _ ?_);rw[YaK,Yao X,YbT,Yab O]
  .exact ZjO
 obtain⟨f,p⟩:∃f:Nat->Value,∀j,j<n->s.w.cell? ⟨g,c+j,none⟩=some (f j)/\(f j).oneCell'=true/\(Dd v j).rel s (f j):=⟨λj=>(key j).choose,λj X=>(key j).choose_spec X⟩;have Y:=Lr L A g c f λj X=>(p j X).1;refine BW (v:=.agg ((List.range n).map f).toArray) ?_ ⟨GS.Le.refl s,_,rfl,by simp[r],λk B=>?_⟩
 .simp [execOp,Z,W,Instr.loadAt,Instr.sureAddr,Y]
 .rw [r]at B
  exact⟨f k,by simp[B],(p k B).2⟩
theorem A5r(L:Tab P t d n b z)(q:ES d=true)(f:Array Value)(off:Nat):(part t f off).run P w=.ok (.agg (f.extract off (off+n))) w:=by
 simp[part,L.run_agg,q,L.run_size]
theorem A6M{f:Array Value}(q:f.size=v.length)(A:∀k,k<v.length->∃u,f[k]? = some u/\u.oneCell'=true/\(Dd v k).rel s u)(h:n+b<=v.length):(AP ((v.drop n).take b)).rel s (.agg (f.extract n (n+b))):=by
 refine⟨_,rfl,by simp;omega,λk B=>?_⟩;have B:k<b:=by simp at B;omega
 obtain⟨u,K,Q⟩:=A (n+k) ZbC;rw[LP B,Ja];refine⟨u,?_,Q⟩;rw[YdI,Yao ZbC];exact K
theorem A4n(O:o.op=.index t x y)(C:arg x=.d (AP v))(M:arg y=.d (ex (.int i a)))(L:Tab P t (.array k n) b T z)(B:Tab P n d m c u)(F:ES d=true)(E:0<=a)(J:a<k)(g:a.toNat*m+m<=v.length):Quiet P hp o arg (.d (AP ((v.drop (a.toNat*m)).take m))):=by
 refine⟨λbase s V G N S Z h=>?_⟩;have q:=h x (by rw[O];simp[Op.operands]);have A:=h y (by rw[O];simp[Op.operands]);rw[C]at q;rw[M]at A;have I:G y=.int i a:=A;obtain⟨f,W,K,Q⟩:=q;refine BW (v:=.agg (f.extract (a.toNat*m) (a.toNat*m+m))) ?_ ⟨GS.Le.refl s,A6M K Q g⟩;simp[execOp,O,W,I,Instr.index,asIntOf,run_underlying L.und,E,J,B.run_size,A5r B F]
theorem Vn(X:o.op=.index t x y)(C:arg x=.d (AP v))(M:arg y=.d (ex (.int i a)))(L:Tab P t (.array c n) b T z)(E:Tab P n d 1 m u)(G:ES d=false)(F:0<=a)(J:a<c)(g:a.toNat<v.length):Quiet P hp o arg (.d (Dd v a.toNat)):=by
 refine⟨λbase s V I S e Z h=>?_⟩;have q:=h x (by rw[X];simp[Op.operands]);have A:=h y (by rw[X];simp[Op.operands]);rw[C]at q;rw[M]at A;have N:I y=.int i a:=A;obtain⟨f,W,K,Q⟩:=q;obtain⟨B,k,O,Y⟩:=Q _ g;refine BW (v:=B) ?_ ⟨GS.Le.refl s,Y⟩;simp[execOp,X,W,N,Instr.index,asIntOf,run_underlying L.und,F,J,E.run_size,part,E.run_agg,G,k]
theorem Quiet.extract{i:Nat}(F:o.op=.extract x i)(C:arg x=.d (FA v))(J:i<v.length):Quiet P hp o arg (.d (Dd v i)):=by
 refine⟨λbase s V B E G Z h=>?_⟩;have q:=h x ZcQ;rw[C]at q;obtain⟨f,W,A,K⟩:=q;obtain⟨u,Q,k⟩:=K i J;exact BW (v:=u) (by simp[execOp,F,W,Instr.extract,Q]) ⟨GS.Le.refl s,k⟩
end
def Abs(P:Program)(f:FuncId)(ds:List D)(r:D):Prop:=
 (∀args w,(callFunc f args).run P w=.ok (.enter f args) w)/\∀(s:GS) (J:List Value),s.Ok->J.length=ds.length->(∀k,k<ds.length->(Dd ds k).rel s (J.getD k undef)) ->
  Calls P f J.toArray s.w λe N=>∃v,e=.returned v/\∃j:GS,j.w=N/\GS.Le s j/\r.rel j v
def ArgsLe(F:List Ow)(arg:Operand->AV):List Operand->List D->Prop
 |[],[]=>True
 |x::l,d::S=>(∃y,HO F (arg x)=some y/\D.le y d)/\ArgsLe F arg l S
 |_,_=>False
variable{vC:Operand->AV}
theorem ArgsLe.nil{hp:List Ow}:ArgsLe hp vC [] []:=trivial
variable{H:List Ow}
theorem ArgsLe.cons{l:List Operand}{d y:D}{ds:List D}(h:HO H (vC x)=some y)(I:D.le y d)(Y:ArgsLe H vC l ds):ArgsLe H vC (x::l) (d::ds):=⟨⟨y,h,I⟩,Y⟩
theorem ArgsLe.rel{base:Nat}{ρ:Nat->Value}{s:GS}{hp:List Ow}{arg:Operand->AV}{ev:Operand->Value}(n:HpOk base ρ s hp):∀{l:List Operand} {S:List D},ArgsLe hp arg l S->(∀x∈l,AVr hp.length ρ s (arg x) (ev x))->l.length=S.length/\∀k,k<S.length->(Dd S k).rel s ((l.map ev).getD k undef)
 |[],[],_,_=>⟨rfl,λk B=>absurd B ZbR⟩
 |[],_::_,h,_=>h.elim
 |_::_,[],h,_=>h.elim
 |x::l,d::S,⟨⟨y,q,A⟩,K⟩,h=>by
  obtain⟨Q,E⟩:=ArgsLe.rel n K λx C=>h x (Ybc _ C);refine⟨by simp[Q],λk B=>?_⟩
  cases k with
  |zero=>exact A s _ (DV n (h x Ybk) q)
  |succ k=>exact E k ZcZ
theorem Quiet.call{o:Oper}{f:Operand}(F:o.op=.call { callee:=.value f,args:=vP.toArray,argTypes:=vt })(p:vC f=.d (ex (.func (.func vd) #[] #[])))(G:Abs P vd v r)(t:ArgsLe H vC vP v):Quiet P H o vC (.d r):=by
 refine⟨λbase s V i E J Z h=>?_⟩;have q:=h f Zdu;rw[p]at q;have W:i f=.func (.func vd) #[] #[]:=q;obtain⟨A,K⟩:=ArgsLe.rel (ev:=i) Z t λx C=>h x (by rw[F];simp[Op.operands,Call.operands,C]);have Q:=G.2 s (vP.map i) E ZdE K;unfold RegG.OpStep
 have m:(execOp i o).run P s.w=.ok (.enter vd (vP.map i).toArray) s.w:=by
  simp[execOp,F,resolve,W,Deferred.ofValue,invoke,G.1]
 rw[m];exact Q.mono λe N ⟨B,b,j,a,I,Y⟩=>⟨B,b,j,a,I,Y⟩
structure TyRow where
 t:TypeId
 d:TypeDesc
 n:Nat
 b:Nat
 z:Value
def A2b : List TyRow := [⟨2,.int .i64,1,8,.int .i64 0⟩,⟨3,.int .i64,1,8,.int .i64 0⟩,⟨4,.bool,1,1,.bool false⟩,⟨5,.int .u8,1,1,.int .u8 0⟩,⟨9,.string,1,16,.string ByteArray.empty⟩,⟨22,.slice 5,1,24,.slice none 0 0⟩,⟨24,.slice 28,1,24,.slice none 0 0⟩,⟨26,.struct #[⟨"N",3,0,false,"","",0⟩,⟨"Eqs",24,1,false,"","",8⟩,⟨"Neqs",24,2,false,"","",32⟩],3,56,.agg #[.int .i64 0,.slice none 0 0,.slice none 0 0]⟩,⟨27,.slice 114,1,24,.slice none 0 0⟩,⟨28,.slice 114,1,24,.slice none 0 0⟩,⟨29,.slice 36,1,24,.slice none 0 0⟩,⟨30,.slice 36,1,24,.slice none 0 0⟩,⟨31,.slice 3,1,24,.slice none 0 0⟩,⟨32,.slice 131,1,24,.slice none 0 0⟩,⟨34,.struct #[⟨"Kind",3,0,false,"","",0⟩,⟨"P",28,1,false,"","",8⟩,⟨"N",3,2,false,"","",32⟩,⟨"D",3,3,false,"","",40⟩,⟨"R",3,4,false,"","",48⟩,⟨"O",30,5,false,"","",56⟩,⟨"L",24,6,false,"","",80⟩,⟨"S",31,7,false,"","",104⟩,⟨"B",32,8,false,"","",128⟩],9,152,.agg #[.int .i64 0,.slice none 0 0,.int .i64 0,.int .i64 0,.int .i64 0,.slice none 0 0,.slice none 0 0,.slice none 0 0,.slice none 0 0]⟩,⟨35,.slice 24,1,24,.slice none 0 0⟩,⟨36,.array 8 3,8,64,.agg #[.int .i64 0,.int .i64 0,.int .i64 0,.int .i64 0,.int .i64 0,.int .i64 0,.int .i64 0,.int .i64 0]⟩,⟨37,.slice 111,1,24,.slice none 0 0⟩,⟨38,.slice 111,1,24,.slice none 0 0⟩,⟨39,.array 8 38,8,192,.agg #[.slice none 0 0,.slice none 0 0,.slice none 0 0,.slice none 0 0,.slice none 0 0,.slice none 0 0,.slice none 0 0,.slice none 0 0]⟩,⟨41,.struct #[⟨"L",36,0,false,"","",0⟩,⟨"Q",38,8,false,"","",64⟩,⟨"R",39,9,false,"","",88⟩],17,280,.agg #[.int .i64 0,.int .i64 0,.int .i64 0,.int .i64 0,.int .i64 0,.int .i64 0,.int .i64 0,.int .i64 0,.slice none 0 0,.slice none 0 0,.slice none 0 0,.slice none 0 0,.slice none 0 0,.slice none 0 0,.slice none 0 0,.slice none 0 0,.slice none 0 0]⟩,⟨42,.slice 129,1,24,.slice none 0 0⟩,⟨43,.slice 184,1,24,.slice none 0 0⟩,⟨44,.slice 187,1,24,.slice none 0 0⟩,⟨46,.struct #[⟨"N",3,0,false,"","",0⟩,⟨"Cof",24,1,false,"","",8⟩,⟨"G",24,2,false,"","",32⟩,⟨"O",30,3,false,"","",56⟩,⟨"C",35,4,false,"","",80⟩,⟨"Q",35,5,false,"","",104⟩,⟨"S",35,6,false,"","",128⟩,⟨"R",41,7,false,"","",152⟩,⟨"At",42,24,false,"","",432⟩,⟨"Sq",43,25,false,"","",456⟩,⟨"X",44,26,false,"","",480⟩,⟨"B",32,27,false,"","",504⟩],28,528,.agg #[.int .i64 0,.slice none 0 0,.slice none 0 0,.slice none 0 0,.slice none 0 0,.slice none 0 0,.slice none 0 0,.int .i64 0,.int .i64 0,.int .i64 0,.int .i64 0,.int .i64 0,.int .i64 0,.int .i64 0,.int .i64 0,.slice none 0 0,.slice none 0 0,.slice none 0 0,.slice none 0 0,.slice none 0 0,.slice none 0 0,.slice none 0 0,.slice none 0 0,.slice none 0 0,.slice none 0 0,.slice none 0 0,.slice none 0 0,.slice none 0 0]⟩,⟨48,.struct #[⟨"K",26,0,false,"","",0⟩,⟨"C",34,3,false,"","",56⟩,⟨"E",46,12,false,"","",208⟩],40,736,.agg #[.int .i64 0,.slice none 0 0,.slice none 0 0,.int .i64 0,.slice none 0 0,.int .i64 0,.int .i64 0,.int .i64 0,.slice none 0 0,.slice none 0 0,.slice none 0 0,.slice none 0 0,.int .i64 0,.slice none 0 0,.slice none 0 0,.slice none 0 0,.slice none 0 0,.slice none 0 0,.slice none 0 0,.int .i64 0,.int .i64 0,.int .i64 0,.int .i64 0,.int .i64 0,.int .i64 0,.int .i64 0,.int .i64 0,.slice none 0 0,.slice none 0 0,.slice none 0 0,.slice none 0 0,.slice none 0 0,.slice none 0 0,.slice none 0 0,.slice none 0 0,.slice none 0 0,.slice none 0 0,.slice none 0 0,.slice none 0 0,.slice none 0 0]⟩,⟨49,.int .i64,1,8,.int .i64 0⟩,⟨55,.slice 212,1,24,.slice none 0 0⟩,⟨56,.slice 64,1,24,.slice none 0 0⟩,⟨58,.struct #[⟨"Kind",5,0,false,"","",0⟩,⟨"L",55,1,false,"","",8⟩,⟨"V",56,2,false,"","",32⟩],3,56,.agg #[.int .u8 0,.slice none 0 0,.slice none 0 0]⟩,⟨59,.int .u16,1,2,.int .u16 0⟩,⟨61,.slice 22,1,24,.slice none 0 0⟩,⟨63,.array 2 58,6,112,.agg #[.int .u8 0,.slice none 0 0,.slice none 0 0,.int .u8 0,.slice none 0 0,.slice none 0 0]⟩,⟨64,.int .i8,1,1,.int .i8 0⟩,⟨65,.array 2 64,2,2,.agg #[.int .i8 0,.int .i8 0]⟩,⟨67,.struct #[⟨"Kind",3,0,false,"","",0⟩,⟨"P",28,1,false,"","",8⟩,⟨"O",30,2,false,"","",32⟩],3,56,.agg #[.int .i64 0,.slice none 0 0,.slice none 0 0]⟩,⟨92,.struct #[⟨"b",22,0,false,"","eliminant/claim",0⟩],1,24,.agg #[.slice none 0 0]⟩,⟨103,.struct #[⟨"b",22,0,false,"","eliminant/claim",0⟩],1,24,.agg #[.slice none 0 0]⟩,⟨107,.slice 335,1,24,.slice none 0 0⟩,⟨109,.struct #[⟨"Neg",4,0,false,"","",0⟩,⟨"Mag",107,1,false,"","",8⟩],2,32,.agg #[.bool false,.slice none 0 0]⟩,⟨111,.struct #[⟨"Num",109,0,false,"","",0⟩,⟨"Den",109,2,false,"","",32⟩],4,64,.agg #[.bool false,.slice none 0 0,.bool false,.slice none 0 0]⟩,⟨112,.array 8 3,8,64,.agg #[.int .i64 0,.int .i64 0,.int .i64 0,.int .i64 0,.int .i64 0,.int .i64 0,.int .i64 0,.int .i64 0]⟩,⟨114,.struct #[⟨"C",111,0,false,"","",0⟩,⟨"M",112,4,false,"","",64⟩],12,128,.agg #[.bool false,.slice none 0 0,.bool false,.slice none 0 0,.int .i64 0,.int .i64 0,.int .i64 0,.int .i64 0,.int .i64 0,.int .i64 0,.int .i64 0,.int .i64 0]⟩,⟨129,.struct #[⟨"Lo",111,0,false,"","",0⟩,⟨"Hi",111,4,false,"","",64⟩],8,128,.agg #[.bool false,.slice none 0 0,.bool false,.slice none 0 0,.bool false,.slice none 0 0,.bool false,.slice none 0 0]⟩,⟨131,.array 8 129,64,1024,.agg #[.bool false,.slice none 0 0,.bool false,.slice none 0 0,.bool false,.slice none 0 0,.bool false,.slice none 0 0,.bool false,.slice none 0 0,.bool false,.slice none 0 0,.bool false,.slice none 0 0,.bool false,.slice none 0 0,.bool false,.slice none 0 0,.bool false,.slice none 0 0,.bool false,.slice none 0 0,.bool false,.slice none 0 0,.bool false,.slice none 0 0,.bool false,.slice none 0 0,.bool false,.slice none 0 0,.bool false,.slice none 0 0,.bool false,.slice none 0 0,.bool false,.slice none 0 0,.bool false,.slice none 0 0,.bool false,.slice none 0 0,.bool false,.slice none 0 0,.bool false,.slice none 0 0,.bool false,.slice none 0 0,.bool false,.slice none 0 0,.bool false,.slice none 0 0,.bool false,.slice none 0 0,.bool false,.slice none 0 0,.bool false,.slice none 0 0,.bool false,.slice none 0 0,.bool false,.slice none 0 0,.bool false,.slice none 0 0,.bool false,.slice none 0 0]⟩,⟨139,.struct #[⟨"k",26,0,false,"","eliminant/claim",0⟩],3,56,.agg #[.int .i64 0,.slice none 0 0,.slice none 0 0]⟩,⟨143,.struct #[⟨"rules",139,0,true,"","eliminant/claim",0⟩,⟨"c",34,3,false,"","eliminant/claim",56⟩],12,208,.agg #[.int .i64 0,.slice none 0 0,.slice none 0 0,.int .i64 0,.slice none 0 0,.int .i64 0,.int .i64 0,.int .i64 0,.slice none 0 0,.slice none 0 0,.slice none 0 0,.slice none 0 0]⟩,⟨150,.struct #[⟨"claims",143,0,true,"","eliminant/claim",0⟩,⟨"e",46,12,false,"","eliminant/claim",208⟩],40,736,.agg #[.int .i64 0,.slice none 0 0,.slice none 0 0,.int .i64 0,.slice none 0 0,.int .i64 0,.int .i64 0,.int .i64 0,.slice none 0 0,.slice none 0 0,.slice none 0 0,.slice none 0 0,.int .i64 0,.slice none 0 0,.slice none 0 0,.slice none 0 0,.slice none 0 0,.slice none 0 0,.slice none 0 0,.int .i64 0,.int .i64 0,.int .i64 0,.int .i64 0,.int .i64 0,.int .i64 0,.int .i64 0,.int .i64 0,.slice none 0 0,.slice none 0 0,.slice none 0 0,.slice none 0 0,.slice none 0 0,.slice none 0 0,.slice none 0 0,.slice none 0 0,.slice none 0 0,.slice none 0 0,.slice none 0 0,.slice none 0 0,.slice none 0 0]⟩,⟨184,.struct #[⟨"A",111,0,false,"","",0⟩,⟨"P",28,4,false,"","",64⟩],5,88,.agg #[.bool false,.slice none 0 0,.bool false,.slice none 0 0,.slice none 0 0]⟩,⟨187,.array 8 111,32,512,.agg #[.bool false,.slice none 0 0,.bool false,.slice none 0 0,.bool false,.slice none 0 0,.bool false,.slice none 0 0,.bool false,.slice none 0 0,.bool false,.slice none 0 0,.bool false,.slice none 0 0,.bool false,.slice none 0 0,.bool false,.slice none 0 0,.bool false,.slice none 0 0,.bool false,.slice none 0 0,.bool false,.slice none 0 0,.bool false,.slice none 0 0,.bool false,.slice none 0 0,.bool false,.slice none 0 0,.bool false,.slice none 0 0]⟩,⟨195,.struct #[⟨"N",64,0,false,"","",0⟩,⟨"D",64,1,false,"","",1⟩,⟨"K",5,2,false,"","",2⟩],3,3,.agg #[.int .i8 0,.int .i8 0,.int .u8 0]⟩,⟨201,.int .u64,1,8,.int .u64 0⟩,⟨210,.slice 299,1,24,.slice none 0 0⟩,⟨212,.struct #[⟨"T",210,0,false,"","",0⟩],1,24,.agg #[.slice none 0 0]⟩,⟨222,.array 3 3,3,24,.agg #[.int .i64 0,.int .i64 0,.int .i64 0]⟩,⟨225,.struct #[⟨"lo",3,0,false,"","eliminant/claim",0⟩,⟨"hi",3,1,false,"","eliminant/claim",8⟩],2,16,.agg #[.int .i64 0,.int .i64 0]⟩,⟨231,.struct #[⟨"Low",3,0,false,"","",0⟩,⟨"High",3,1,false,"","",8⟩],2,16,.agg #[.int .i64 0,.int .i64 0]⟩,⟨299,.array 5 64,5,5,.agg #[.int .i8 0,.int .i8 0,.int .i8 0,.int .i8 0,.int .i8 0]⟩,⟨321,.slice 38,1,24,.slice none 0 0⟩,⟨335,.int .u32,1,4,.int .u32 0⟩,⟨346,.slice 109,1,24,.slice none 0 0⟩]
def Us:List TyRow->Nat->Option TyRow
 |[],_=>none
 |p::r,t=>bif Nat.beq p.t t then some p else Us r t
def A1d:List TyRow->Prop
 |[]=>True
 |p::r=>Tab prog p.t p.d p.n p.b p.z/\A1d r
theorem tk{t:TypeId}{d:TypeDesc}{n b:Nat}{z:Value}(h:prog.underlying t=some d)(g:(prog.info? t).map (fun i=>(i.zero,i.size,i.bytes))=some (some z,n,b):=by kernel_rfl):Tab prog t d n b z:=⟨h,g⟩
theorem A2d:A1d A2b:=⟨tk underlying2,tk underlying3,tk underlying4,tk underlying5,tk underlying9,tk underlying22,tk underlying24,tk underlying26,tk underlying27,tk underlying28,tk underlying29,tk underlying30,tk underlying31,tk underlying32,tk underlying34,tk underlying35,tk underlying36,tk underlying37,tk underlying38,tk underlying39,tk underlying41,tk underlying42,tk underlying43,tk underlying44,tk underlying46,tk underlying48,tk underlying49,tk underlying55,tk underlying56,tk underlying58,tk underlying59,tk underlying61,tk underlying63,tk underlying64,tk underlying65,tk underlying67,tk underlying92,tk underlying103,tk underlying107,tk underlying109,tk underlying111,tk underlying112,tk underlying114,tk underlying129,tk underlying131,tk underlying139,tk underlying143,tk underlying150,tk underlying184,tk underlying187,tk underlying195,tk underlying201,tk underlying210,tk underlying212,tk underlying222,tk underlying225,tk underlying231,tk underlying299,tk underlying321,tk underlying335,tk underlying346,trivial⟩
theorem RF:∀{l:List TyRow},A1d l->∀{t:Nat} {p:TyRow},Us l t=some p->p.t=t/\Tab prog p.t p.d p.n p.b p.z
 |[],_,_,_,h=>by cases h
 |q::l,⟨A,B⟩,t,p,h=>by
  unfold Us at h
  cases E:Nat.beq q.t t with
  |true=>rw[E]at h;cases h;exact⟨Yan E,A⟩
  |false=>rw[E]at h;exact RF B h
theorem Aa(h:Us A2b t=some ⟨t,d,n,b,z⟩):Tab prog t d n b z:=(RF A2d h).2
end
