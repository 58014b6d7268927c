/- Part 2. No condition. -/
import Derived.Laws.AppendOwn
import Derived.Test.YtcikkglcoeedlaaGreatBk1
set_option linter.unusedSimpArgs false
set_option linter.unusedVariables false
set_option maxRecDepth 100000
namespace Go.Proofs.YtcikkglcoeedlaaGreat
open _root_.Go.Proofs.Tryz
open Go.RowKit
variable{vl:Act}{vN:Array Bool}{vU:Array Field}{vt:Array TypeId}{vW:BinOp}{p:Bool}{vR:Exit->Act->World->Prop}{vZ:Field}{vd:FuncId}{a j:Int}{vO:List Operand}{n b T m c k h vj:Nat}{vi ud:Nat->Value}{va:Oper}{x y vS:Operand}{P:Program}{vG:Prop}{us:Shape}{d:TypeDesc}{t U:TypeId}{z u:Value}{w:World}
structure GS where
 S:Nat->Nat->Prop
 tag:Nat->Nat
 w:World
structure GS.Ok(s:GS):Prop where
 lt:∀b k,s.S b k->b<s.w.heap.size
 safe:∀b k,Ty s.w b 335->s.S b k
structure GS.Chg(s s':GS):Prop where
 size:s.w.heap.size<=s'.w.heap.size
 up:∀b k,s.S b k->s'.S b k
 cell:∀b cs T fz,s.w.heap[b]? = some (.cells cs T fz)->∃cs' fz',s'.w.heap[b]? = some (.cells cs' T fz')/\∀k,s.S b k->cs'[k]? = cs[k]?
structure GS.Le(s s':GS):Prop where
 ext:Ext s.w s'.w
 up:∀b k,s.S b k->s'.S b k
 old:∀b k,b<s.w.heap.size->s'.S b k->s.S b k
 tag:∀b,b<s.w.heap.size->s'.tag b=s.tag b
 ok:s.Ok->s'.Ok
theorem GS.Le.refl(s:GS):GS.Le s s:=⟨Ext.refl _,λ_ _ h=>h,λ_ _ _ h=>h,λ_ _=>rfl,λh=>h⟩
theorem GS.Le.trans{a b c:GS}(h:GS.Le a b)(k:GS.Le b c):GS.Le a c:=
 ⟨h.ext.trans k.ext,λb W A=>k.up _ _ (h.up _ _ A),λx W E A=>h.old _ _ E (k.old _ _ (Yaq E h.ext.size) A),λx E=>(k.tag x (Yaq E h.ext.size)).trans (h.tag x E),λA=>k.ok (h.ok A)⟩
variable{s vr:GS}
theorem GS.Le.chg(h:GS.Le s vr):GS.Chg s vr:=⟨h.ext.size,h.up,λx A T S E=>⟨A,S,(h.ext.block (Bw E)).trans E,λ_ _=>rfl⟩⟩
theorem GS.Chg.refl(s:GS):GS.Chg s s:=(GS.Le.refl s).chg
theorem GS.Chg.trans{a b c:GS}(h:GS.Chg a b)(k:GS.Chg b c):GS.Chg a c:=
 ⟨Yat h.size k.size,λx y F=>k.up _ _ (h.up _ _ F),λx C T G E=>by
  obtain⟨I,d,A,B⟩:=h.cell x C T G E;obtain⟨J,e,L,S⟩:=k.cell x I T d A;exact⟨J,e,L,λy O=>(S y (h.up _ _ O)).trans (B y O)⟩⟩
theorem GS.Le.heap(h:Ext s.w w)(A:w.heap=s.w.heap):GS.Le s { s with w:=w }:=
 ⟨h,λ_ _ h=>h,λ_ _ _ h=>h,λ_ _=>rfl,λC=>⟨λb k F=>by show b<w.heap.size;rw[A];exact C.lt b k F,λb k ⟨B,S,F⟩=>C.safe b k ⟨B,S,by rw[<-A];exact F⟩⟩⟩
def GS.grown(s:GS)(N:World):GS:=⟨λb k=>s.S b k\/(s.w.heap.size<=b/\b<N.heap.size),s.tag,N⟩
theorem FI(h:Ext s.w w):GS.Le s (s.grown w):=
 ⟨h, fun _ _ h => .inl h, fun b k F E => E.elim id fun B => absurd F ZbD, fun _ _ => rfl, fun E => ⟨fun b k F => F.elim (fun B => Yaq (E.lt b k B) h.size) fun B => B.2, fun b k ⟨C, S, F⟩ => by
  rcases YaG b s.w.heap.size with A | A
  .exact .inl (E.safe b k ⟨C,S,(h.block A).symm.trans F⟩)
  .exact .inr ⟨A,Bw F⟩⟩⟩
def GS.mk'(s:GS)(h:Array Value)(T:TypeId)(i:Nat):GS:=⟨s.S,λb=>if b=s.w.heap.size then i else s.tag b,s.w.alloc (.cells h T)⟩
theorem GS.le_mk'(s:GS)(C:Array Value)(T:TypeId)(i:Nat)(G:T≠335):GS.Le s (s.mk' C T i):=
 ⟨(Ext.refl _).alloc _, fun _ _ h => h, fun _ _ _ h => h, fun b F => by show (if b = s.w.heap.size then i else s.tag b) = _; rw [Yai ZbD], fun E => ⟨fun b k F => Yaq (E.lt b k F) (by show _ ≤ (s.w.alloc _).heap.size; simp), fun b k ⟨I, J, F⟩ => by
  replace F:(s.w.alloc (.cells C T)).heap[b]? = some (.cells I 335 J):=F;rcases YaG b s.w.heap.size with A | A
  .exact E.safe b k ⟨I,J,(Below.heap_alloc s.w _ b A).symm.trans F⟩
  .exfalso
   have B:=Bw F;have L:b=s.w.heap.size:=by have S:(s.w.alloc (.cells C T)).heap.size=s.w.heap.size+1:=Yeb ..;omega
   rw[L,heap_alloc_new]at F;cases F;exact G rfl⟩⟩
structure D where
 rel:GS->Value->Prop
 st:∀{s s':GS} {v:Value},rel s v->GS.Chg s s'->rel s' v
def ex(u:Value):D:=⟨λ_ v=>v=u,λh _=>h⟩
def CD:D:=⟨λ_ _=>True,λh _=>h⟩
instance:Inhabited D:=⟨CD⟩
def DK(R:List D)(k:Nat):D:=R.getD k CD
def AP(ds:List D):D:=⟨λs v=>∃h:Array Value,v=.agg h/\h.size=ds.length/\∀k,k<ds.length->∃u,h[k]? = some u/\u.oneCell'=true/\(DK ds k).rel s u,
 λ⟨h,A,B,L⟩ I=>⟨h,A,B,λk C=>let⟨u,S,n,E⟩:=L k C;⟨u,S,n,(DK ds k).st E I⟩⟩⟩
def FY(R:List D):D:=⟨λs v=>∃h:Array Value,v=.tuple h/\h.size=R.length/\∀k,k<R.length->∃u,h[k]? = some u/\(DK R k).rel s u,
 λ⟨h,A,B,L⟩ I=>⟨h,A,B,λk C=>let⟨u,S,E⟩:=L k C;⟨u,S,(DK R k).st E I⟩⟩⟩
def Lies(s:GS)(b o:Nat)(T:TypeId)(R:List D):Prop:=
 ∃h S,s.w.heap[b]? = some (.cells h T S)/\∀k,k<R.length->s.S b (o+k)/\∃u,h[o+k]? = some u/\u.oneCell'=true/\(DK R k).rel s u
theorem Lies.st{s s':GS}{ds:List D}(h:Lies s n b t ds)(I:GS.Chg s s'):Lies s' n b t ds:=by
 obtain⟨E,J,A,B⟩:=h;obtain⟨K,R,L,S⟩:=I.cell n E t J A;refine⟨K,R,L,λk C=>?_⟩;obtain⟨F,u,G,g,y⟩:=B k C;exact⟨I.up _ _ F,u,(S _ F).trans G,g,(DK ds k).st y I⟩
variable{v:List D}
theorem Lies.cell{b o:Nat}(h:Lies s b o t v){k:Nat}(C:k<v.length):∃u,s.w.cell? ⟨b,o+k,none⟩=some u/\u.oneCell'=true/\(DK v k).rel s u:=by
 obtain⟨E,F,A,B⟩:=h;obtain⟨_,u,L,S⟩:=B k C;exact⟨u,(Dh A).trans L,S⟩
theorem II(R:List D)(i k:Nat):DK (R.drop i) k=DK R (i+k):=by simp[DK,YbO]
theorem Li{i k:Nat}(h:k<i):DK (v.take i) k=DK v k:=by simp[DK,YaJ,h]
theorem Lies.drop{b o:Nat}(h:Lies s b o t v)(i:Nat):Lies s b (o+i) t (v.drop i):=by
 obtain⟨E,S,A,B⟩:=h;refine⟨E,S,A,λk C=>?_⟩;rw[YbQ]at C;rw[II,YbM];exact B (i+k) ZbD
theorem Lies.take{b o:Nat}(h:Lies s b o t v)(i:Nat):Lies s b o t (v.take i):=by
 obtain⟨E,S,A,B⟩:=h;refine⟨E,S,A,λk C=>?_⟩;rw[YaO]at C;rw[Li ZbD];exact B k ZbD
def Fg(T:TypeId)(ds:List D):D:=⟨λs v=>∃b o,v=.pointer (some ⟨b,o,none⟩)/\Lies s b o T ds,λ⟨b,o,A,B⟩ I=>⟨b,o,A,B.st I⟩⟩
def slD(T:TypeId)(G:Nat)(K:List (List D)):D:=
 ⟨λs v=>∃(A:Option Addr) (c:Nat),v=.slice A K.length c/\K.length<=c/\c<=9223372036854775807 /\
  (0<K.length->∃b o,A=some ⟨b,o,none⟩/\(∀k,k<K.length->(K.getD k []).length=G/\Lies s b (o+k*G) T (K.getD k []))),
 λ⟨A,c,B,C,L,S⟩ I=>⟨A,c,B,C,L,λF=>let⟨b,o,n,J⟩:=S F;⟨b,o,n,λk E=>⟨(J k E).1,(J k E).2.st I⟩⟩⟩⟩
def D.le(x y:D):Prop:=∀s v,x.rel s v->y.rel s v
theorem D.le.refl(x:D):D.le x x:=λ_ _ h=>h
theorem Ae{x y:D}(h:x=y):D.le x y:=h▸D.le.refl x
theorem slD.nil(T:TypeId)(k:Nat)(s:GS):(slD T k []).rel s (.slice none 0 0):=⟨none,0,rfl,by simp,by omega,λh=>absurd h ZbS⟩
theorem TN(C:List (List D))(i k:Nat):(C.drop i).getD k []=C.getD (i+k) []:=by simp[YbO]
variable{vm:List (List D)}
theorem Oz(h:b<n):(vm.take n).getD b []=vm.getD b []:=by simp[YaJ,h]
section
namespace RegG
open Go.RowKit
def _root_.Go.Proofs.YtcikkglcoeedlaaGreat.GS.dr(s:GS):GS:={ s with w:=s.w.drew }
def OpStep(P:Program)(o:Oper)(ev:Operand->Value)(s:GS)(R:Value->GS->Prop):Prop:=
 match (execOp ev o).run P s.w with
 |.ok (.value v) N=>∃j:GS,j.w=N/\R v j
 |.ok .skip N=>∃j:GS,j.w=N/\R undef j
 |.ok (.enter f args) N=>Calls P f args N λe L=>∃v,e=.returned v/\∃j:GS,j.w=L/\R v j
 |_=>False
theorem opStep_wp{i:Operand->Value}{R:Value->GS->Prop}{K:Act->World->Prop}(T:BN va.op=true)(q:∀y∈va.op.operands,vl.eval y=i y)
  (h:OpStep P va i s R) (C:∀v (L:GS),R v L->K (vl.put va.dst v) L.w):va.wp P vl s.w K vR:=by
 unfold Oper.wp
 have Y:∀B b,va.op≠.select B b:=by
  intro B b e;rw[e]at T;cases T
 rw[execOp_congr va Y q];unfold OpStep at h;split at h
 .rename_i v L X;rw[X];obtain⟨j,rfl,h⟩:=h;exact C _ _ h
 .rename_i L X;rw[X];obtain⟨j,rfl,h⟩:=h;exact C _ _ h
 .rename_i f args L X
  rw[X];exact Calls.mono h λe F ⟨v,A,j,p,E⟩=>by subst A;subst p;exact C _ _ E
 .exact h.elim
abbrev Fact:=List Value->GS->Prop
def Known(S:List Shape)(c:List Fact)(i:Nat)(g:Nat->Value)(w:GS):Prop:=
 ∀x,S[i]? = some x->∀j∈x.bef,∀y F,S[j]? = some y->c[j]? = some F->F (y.deps.map g) w
def StepAt(P:Program)(S:List Shape)(c:List Fact)(a:Act)(Q:GS)(i:Nat)(o:Oper)(x:Shape)(F:Fact):Prop:=
 ∀(g:Nat->Value) (w:GS) (A:Operand->Value),GS.Le Q w->Known S c i g w->UF A g x.env ->
  (∀t,(∀p∈x.env,p.1≠t)->A (.tmp t)=a.tmps.getD t undef)->(∀v,A (.const v)=v)->(∀f,A (.func f)=.func (.func f) #[] #[]) ->
  (Fn o g=true->OpStep P o A w λv N=>GS.Le w N/\F (x.deps.map (upd g i v)) N)/\(Fn o g=false->F (x.deps.map (upd g i undef)) w)
def StepsAt(P:Program)(A:List Shape)(c:List Fact)(a:Act)(Q:GS):Nat->List Oper->List Shape->List Fact->Prop
 |i,o::L,x::S,F::T=>StepAt P A c a Q i o x F/\StepsAt P A c a Q (i+1) L S T
 |_,_,[],[]=>True
 |_,_,_,_=>False
theorem StepsAt.at{P:Program}{C:List Shape}{c:List Fact}{a:Act}{Q:GS}:∀{S:List Shape} {T:List Fact} {L:List Oper} {i:Nat},StepsAt P C c a Q i L S T ->
  S.length=T.length/\∀k o x,L[k]? = some o->S[k]? = some x->∃F,T[k]? = some F/\StepAt P C c a Q (i+k) o x F
 |[],[],L,i,_=>⟨rfl,λk o x _ E=>by simp at E⟩
 |[],_::_,L,i,h=>by cases L<;>exact h.elim
 |_::_,[],L,i,h=>by cases L<;>exact h.elim
 |x::S,F::T,[],i,h=>h.elim
 |x::S,F::T,o::L,i,h=>Zab
section
variable {P:Program} {L:List Oper} {sh:List Shape} {Rs:List Fact} {a:Act} {w0:GS}
structure HInv(L:List Oper)(sh:List Shape)(Rs:List Fact)(a:Act)(w0:GS)(listed:Array Bool)(g:Nat->Value)(a':Act)(w':GS):Prop where
 size:listed.size=L.length
 closed:∀j o,L[j]? = some o->listed.getD j false=true->∀e∈Bz o,listed.getD e false=true
 tail:∀t,sh.length<=t->listed.getD t false=false
 asz:a'.tmps.size=a.tmps.size
 adef:a'.defers=a.defers
 a1:∀j o d,j<sh.length->L[j]? = some o->listed.getD j false=true->o.dst=some d->a'.tmps[d]? = some (g j)
 a2:∀t,(∀j o,j<sh.length->L[j]? = some o->listed.getD j false=true->o.dst≠some t)->a'.tmps[t]? = a.tmps[t]?
 facts:∀j y F,sh[j]? = some y->Rs[j]? = some F->listed.getD j false=true->F (y.deps.map g) w'
 ext:GS.Le w0 w'
theorem step_inv(S:Ed L sh=true)(N:HH L sh.length a.tmps.size=true)
  (xa:∀F∈Rs,∀V X c,GS.Le X c->F V X->F V c)
 {g:Nat->Value} (W:HInv L sh Rs a w0 vN g vl s) {i:Nat} {F:Fact} (q:L[i]? = some va) (E:sh[i]? = some us) (hF:Rs[i]? = some F)
  (u:vN.getD i false=false) (o:∀e∈Bz va,vN.getD e false=true) (b:GS.Le s vr) (R:F (us.deps.map (upd g i z)) vr) :
  HInv L sh Rs a w0 (vN.setIfInBounds i true) (upd g i z) (vl.put va.dst z) vr:=by
 have U:i<sh.length:=EO E;have x:i<vN.size:=by rw[W.size];exact(Yae.1 q).1
 have T:∀j,(vN.setIfInBounds i true).getD j false=true->j≠i->vN.getD j false=true:=λj h I=>by
  exact ZiX
 have xf:∀j y n,sh[j]? = some y->L[j]? = some n->vN.getD j false=true->i∉y.bef:=λj y n O m J K=>by
  have:=Em S W.closed j y n O m (W.closed j n m J) i K;rw[u]at this;cases this
 refine⟨by simp[W.size],λj n m J e v=>?_,λt M=>?_,?_,?_,λj n d I m J H=>?_,λt M=>?_,λj y G O r J=>?_,W.ext.trans b⟩
 .by_cases p:j=i
  .subst p
   have:n=va:=Yag (m.symm.trans q);subst this;exact getD_set_true (o e v)
  .exact getD_set_true (W.closed j n m (T j J p) e v)
 .rw [getD_set_ne false ZbD];exact W.tail t M
 .unfold Act.put;split<;>simp[W.asz]
 .unfold Act.put;split<;>simp[W.adef]
 .by_cases p:j=i
  .subst p
   have:n=va:=Yag (m.symm.trans q);subst this
   have xc:d<vl.tmps.size:=by
    rw[W.asz];have B:=Yaj.1 N n (YaE (i:=j) (by rw[YaJ];simp[U,m]));simp only[H,Ybb]at B;exact B
   simp[Act.put,H,upd,xc]
  .have xb:=T j J p
   have Y:va.dst≠some d:=λe=>p (Gw S I U m q H e);rw[show upd g i z j=g j by simp[upd,p],<-W.a1 j n d I m xb H];unfold Act.put;split
   .rename_i l f
    have:l≠d:=λe=>Y (by rw[f,e]);simp[YaP this]
   .rfl
 .have B:va.dst≠some t:=by
   refine M i va U q ?_;simp[x]
  rw[<-W.a2 t λj n I m J=>M j n I m (getD_set_true J)];unfold Act.put;split
  .rename_i l f
   have:l≠t:=λe=>B (by rw[f,e]);simp[YaP this]
  .rfl
 .by_cases p:j=i
  .subst p
   have Z:y=us:=Yag (O.symm.trans E);have Q:G=F:=Yag (r.symm.trans hF);subst Z;subst Q;exact R
  .have xb:=T j J p
   have w:j<L.length:=Yaq (EO O) (DG S);have m:L[j]? = some L[j]:=Yac w;have xg:=xf j y _ O m xb
   have xd:y.deps.map (upd g i z)=y.deps.map g:=by
    refine YaX λk C=>?_;have A:=(CO S m).2.1 y O;simp only[Fm,Yam]at A;have B:=Yaj.1 A.1.1.1.1.2 k C;simp only[Ybg,YcD]at B
    have xe:k≠i:=by
     rintro rfl;rcases B with B | B
     .exact p B.symm
     .exact xg ZeX
    simp[upd,xe]
   rw[xd];exact xa G (YaE r) _ _ _ b (W.facts j y G O r xb)
theorem eval_operands(I:Ed L sh=true){g:Nat->Value}(K:HInv L sh Rs a w0 vN g vl s)(q:L[n]? = some va)(E:sh[n]? = some us)
  (S:vN.getD n false=false) (h:∀e∈Bz va,vN.getD e false=true):∀y∈va.op.operands,vl.eval y=Qg a g us.env y:=by
 intro y O
 cases y with
 |tmp t=>
  show vl.tmps.getD t undef=_
  cases V:us.env.find? (λp=>p.1==t)with
  |some p=>
   have G:p∈us.env:=Ybl V;have r:p.1=t:=by simpa using YcE V
   obtain⟨A,B,w,M,N⟩:=HG I E q G;have J:=Em I K.closed n us va E q h p.2 A;have:=K.a1 p.2 w p.1 B M J N;simp only[Qg,V];rw[r]at this;simp[this]
  |none=>
   simp only[Qg,V];have A:=(CO I q).2.1 us E;simp only[Fm,Yam]at A;have B:=Yaj.1 A.1.1.2 (.tmp t) (by simpa using O);simp only[Ybg]at B;rcases B with B | B
   .exfalso
    have:t∈us.env.map (·.1):=Zjl
    obtain⟨p,G,r⟩:=YaA.1 this;have:=Yce.1 V p G;simp[r]at this
   .have:vl.tmps[t]? = a.tmps[t]?:=by
     refine K.a2 t λj R F Q J W=>?_;have C:=Yaj.1 B j (YaZ.2 F);rw[Q]at C;simp[W]at C;rcases C with C | C
     .subst C;rw[S]at J;cases J
     .cases Y:sh[j]? with
      |none=>rw[Ycm]at Y;omega
      |some X=>
       have:=Em I K.closed j X R Y Q (K.closed j R Q J) n (by simpa[Du,Y]using C);rw[S]at this;cases this
    rw[Yay,Yay,this]
 |const v=>rfl
 |global b=>rfl
 |func f=>rfl
theorem wanted_of(I:Ed L sh=true){g:Nat->Value}(O:HInv L sh Rs a w0 vN g vl s)(q:L[n]? = some va)(E:sh[n]? = some us)
  (h:∀e∈Bz va,vN.getD e false=true):Region.wanted va (yielded L.toArray vl.tmps)=Fn va g:=by
 unfold Region.wanted Fn
 cases G:va.guard with
 |none=>rfl
 |some N=>
  obtain⟨j,b⟩:=N;have A:=(CO I q).2.1 us E;simp only[Fm,Yam]at A;have B:=A.1.2;rw[G]at B;simp only[Yam,Ybb]at B;obtain⟨⟨C,S⟩,F⟩:=B;have J:=Em I O.closed n us va E q h j ZcY;split at F
  .rename_i w M
   obtain⟨d,K⟩:=Ycw.1 F;have:=O.a1 j w d S M J K;unfold yielded;simp only[YbE,M,Yex,K,this];cases g j<;>simp
  .cases F
theorem head_run(z:Ed L sh=true)(W:HH L sh.length a.tmps.size=true)
  (xA:∀F∈Rs,∀H w1 w2,GS.Le w1 w2->F H w1->F H w2) (xp:StepsAt P sh Rs a w0 0 L sh Rs)
  (xt:∀g N,GS.Le w0 N->(∀(j:Nat) (y:Shape) (F:Fact),sh[j]? = some y->Rs[j]? = some F->F (y.deps.map g) N)->wpList P L.toArray vR (L.drop sh.length) (FA g (L.take sh.length) 0 a) N.w) :
  ∀(f:Nat) (U:Array Bool) (g:Nat->Value) (a':Act) (N:GS),Jv U=f->HInv L sh Rs a w0 U g a' N->wpAny P .any L.toArray vR f U a' N.w:=by
 obtain⟨xb,xn⟩:=xp.at;intro f
 induction f with
 |zero=>
  intro U g a' N r xa
  have xe:∀j,j<L.length->U.getD j false=true:=λj R=>Zac
  refine Nh z 0 L.length U a' N.w (DG z) ZbD xa.size xe (λj R=>by simp[xa.size,R]) ?_
  exact Zad
 |succ f ih=>
  intro U g a' N r xa;by_cases xk:∀j,j<sh.length->U.getD j false=true
  .have xI:f+1+sh.length=L.length:=Zae
   refine Nh z (f+1) sh.length U a' N.w (Yah _) xI xa.size xk xa.tail ?_;have:=xt g N xa.ext λj y F O hF=>xa.facts j y F O hF (xk j (EO O))
   have xG:FA g (L.take sh.length) 0 a=a':=Zaf
   rw[xG]at this;exact this
  .have xH:∃j,j<sh.length/\U.getD j false=false:=Ydh λxm=>xk λj R=>Zag
   obtain⟨j0,xL,xs⟩:=xH;refine⟨λc=>?_,λi K=>?_⟩
   .obtain ⟨k,_,C⟩:=La z xa.size j0 (Yaq xL (DG z)) xs
    rw[c]at C;cases C
   .obtain ⟨xg,o,m,xf⟩:=Nk z xa.size K
    have xr:i<sh.length:=Zah
    have E:sh[i]? = some sh[i]:=Yac xr;obtain⟨F,hF,T⟩:=xn i o _ m E;rw[YaH]at T;have xo:i<U.size:=ZiU
    have xm:=(CO z m).2.1 _ E;simp only[Fm,Yam]at xm
    obtain⟨xu,xv⟩:=T g N (Qg a g sh[i].env) xa.ext (λx xw j R y G O hG=>by
      have:x=sh[i]:=Yag (xw.symm.trans E);subst this;exact xa.facts j y G O hG (Em z xa.closed i _ o E m xf j R))
     (Sk λp J=>by
      obtain⟨A,B,w,xc,xd⟩:=HG z E m J
      cases xi:sh[i].env.find? (λq=>q.1==p.1)with
      |none=>have:=Yce.1 xi p J;simp at this
      |some q=>
       have Y:=Ybl xi;have xM:q.1=p.1:=by simpa using YcE xi
       obtain⟨_,S,o2,xx,xq⟩:=HG z E m Y;rw[xM]at xq;have:=Gw z S B xx xc xq xd;simp only[Qg,xi,this])
     (λt M=>by
      have:sh[i].env.find? (λq=>q.1==t)=none:=Yce.2 λp J=>by simpa using M p J
      simp only[Qg,this])
     (λ_=>rfl) (λ_=>rfl)
    have xN:=wanted_of z xa m E xf
    have xJ:∀v w2 b,(a'.put o.dst v)=b->GS.Le N w2->F (sh[i].deps.map (upd g i v)) w2->wpAny P .any L.toArray vR f (U.setIfInBounds i true) b w2.w:=λv w2 b I V xy=>by
     subst I;refine ih _ (upd g i v) _ _ ?_ (step_inv z W xA xa m E hF xg xf V xy);have:=MK xo xg;omega
    unfold wpOp;have xx:L.toArray[i]? = some o:=by simpa using m
    rw[xx];show if Region.wanted o (yielded L.toArray a'.tmps)=true then _ else _
    rw[xN];split
    .rename_i hw
     exact Zjn
    .rename_i hw
     exact xJ undef N _ rfl (GS.Le.refl _) (xv (by simpa using hw))
theorem wp_region_ext{L:List Oper}{a:Act}(x:wpAny P .any L.toArray vR L.toArray.size (Array.replicate L.toArray.size false) a s.dr.w->vG)(sh:List Shape)(Rs:List Fact)(B:Ed L sh=true)(e:HH L sh.length a.tmps.size=true)
  (E:∀F∈Rs,∀K C J,GS.Le C J->F K C->F K J) (l:StepsAt P sh Rs a s.dr 0 L sh Rs)
  (r:∀g N,GS.Le s.dr N->(∀(j:Nat) (y:Shape) (F:Fact),sh[j]? = some y->Rs[j]? = some F->F (y.deps.map g) N)->wpList P L.toArray vR (L.drop sh.length) (FA g (L.take sh.length) 0 a) N.w) :
  vG:=by
 refine x ?_;have M:Jv (Array.replicate L.toArray.size false)=L.toArray.size:=by simp[Jv,List.filter_replicate]
 refine head_run B e E l r _ _ (λ_=>undef) a s.dr M ?_
 have A:∀j,(Array.replicate L.toArray.size false).getD j false=false:=λj=>Zai
 exact⟨by simp,(λj o _ h=>by rw[A]at h;cases h),λt _=>A t,rfl,rfl,(λj o d _ _ h=>by rw[A]at h;cases h),λt _=>rfl,(λj y F _ _ h=>by rw[A]at h;cases h),GS.Le.refl _⟩
end
abbrev VFact:=Value->GS->Prop
def OpsKnown(y:List VFact)(i:Operand->Value)(w:GS):List (Nat×Nat)->Prop
 |[]=>True
 |(t,j)::r=>(∀F,y[j]? = some F->F (i (.tmp t)) w)/\OpsKnown y i w r
def UStep(P:Program)(y:List VFact)(a:Act)(Q:GS)(o:Oper)(env:List (Nat×Nat))(F:VFact):Prop:=
 ∀(w:GS) (i:Operand->Value),GS.Le Q w->OpsKnown y i w env ->
  (∀t,(∀p∈env,p.1≠t)->i (.tmp t)=a.tmps.getD t undef)->(∀v,i (.const v)=v)->(∀f,i (.func f)=.func (.func f) #[] #[]) ->
  match o.guard with
  |none=>OpStep P o i w λv N=>GS.Le w N/\F v N
  |some (j,b)=>∀A,(∀G,y[j]? = some G->G A w)->(A=.bool b->OpStep P o i w λv N=>GS.Le w N/\F v N)/\(A≠.bool b->F undef w)
def USteps(P:Program)(y:List VFact)(a:Act)(Q:GS):List Oper->List (List (Nat×Nat))->List VFact->Prop
 |o::L,x::S,F::T=>UStep P y a Q o x F/\USteps P y a Q L S T
 |_,[],[]=>True
 |_,_,_=>False
def unF(F:VFact):Fact:=λK w=>match K with | [v]=>F v w | _=>False
theorem usteps_steps{P:Program}{a:Act}{w0:GS}{Fs:List VFact}{sh:List Shape}{L0:List Oper}(f:Ed L0 sh=true)(xq:∀(k:Nat) (x:Shape),sh[k]? = some x->x.deps=[k]) :
  ∀{L:List Oper} {X:List (List (Nat×Nat))} {bs:List (List Nat)} {T:List VFact} {i:Nat},(∀k,L[k]? = L0[i+k]?)->(∀k,(Gg i X bs)[k]? = sh[i+k]?)->X.length=bs.length->USteps P Fs a w0 L X T ->
   StepsAt P sh (Fs.map unF) a w0 i L (Gg i X bs) (T.map unF)
 |L,[],[],[],i,_,_,_,_=>by cases L<;>exact trivial
 |L,[],[],_::_,i,_,_,_,h=>by cases L<;>exact h.elim
 |L,[],_::_,T,i,_,_,M,h=>by simp at M
 |L,_::_,[],T,i,_,_,M,h=>by simp at M
 |[],_::_,_::_,T,i,_,_,_,h=>by cases T<;>exact h.elim
 |_::_,_::_,_::_,[],i,_,_,_,h=>h.elim
 |o::L,e::X,b::bs,F::T,i,u,z,M,h=>Zaj
theorem wp_region_u{L:List Oper}(C:wpAny P .any L.toArray vR L.toArray.size (Array.replicate L.toArray.size false) vl s.dr.w->vG)(m:List (List (Nat×Nat)))(R:List (List Nat))(y:List VFact)
  (q:(m.length==R.length&&m.length==y.length)=true) (I:Ed L (Gg 0 m R)=true) (B:HH L m.length vl.tmps.size=true)
  (o:∀F∈y,∀v M Q,GS.Le M Q->F v M->F v Q) (l:USteps P y vl s.dr L m y)
  (r:∀(g:Nat->Value) (N:GS),GS.Le s.dr N->(∀(j:Nat) (F:VFact),y[j]? = some F->F (g j) N)->wpList P L.toArray vR (L.drop m.length) (FA g (L.take m.length) 0 vl) N.w) :
  vG:=Zak
def Stab(F:VFact):Prop:=∀v j J,GS.Le j J->F v j->F v J
def StabAll:List VFact->Prop
 |[]=>True
 |F::r=>Stab F/\StabAll r
theorem StabAll.mem:∀{y:List VFact},StabAll y->∀F∈y,Stab F
 |[],_,F,h=>by cases h
 |G::r,h,F,hF=>Zal
theorem wp_region_v{L:List Oper}{w:GS}(x:wpAny P .any L.toArray vR L.toArray.size (Array.replicate L.toArray.size false) vl w.dr.w->vG)(m:List (List (Nat×Nat)))(u:List (List Nat))(y:List VFact)
  (q:(m.length==u.length&&m.length==y.length)=true) (A:Ed L (Gg 0 m u)=true) (e:HH L m.length vl.tmps.size=true) (stab:StabAll y) (steps:USteps P y vl w.dr L m y)
  (fin:∀(g:Nat->Value) (N:GS),GS.Le w.dr N->(∀(j:Nat) (F:VFact),y[j]? = some F->F (g j) N)->wpList P L.toArray vR (L.drop m.length) (FA g (L.take m.length) 0 vl) N.w) :
  vG:=
 wp_region_u x m u y q A e (λF hF=>stab.mem F hF) steps fin
end RegG
theorem JZ(s:GS):GS.Le s s.dr:=GS.Le.heap ((Ext.refl _).drew) rfl
structure OD where
 rel:GS->Value->Prop
 blk:GS->Value->Nat->Prop
 lt:∀{s:GS} {v:Value} {b:Nat},rel s v->blk s v b->b<s.w.heap.size
 keep:∀{s s':GS} {v:Value},rel s v->GS.Chg s s'->(∀b,blk s v b->s'.w.heap[b]? = s.w.heap[b]? /\ ∀k,s'.S b k↔s.S b k)->rel s' v/\∀b,blk s' v b->blk s v b
inductive AV
 |d (x:D)
 |ptr (id off:Nat)
 |own (id:Nat)
 |fn (f:FuncId) (caps:List Nat)
instance:Inhabited AV:=⟨.d CD⟩
inductive Ow
 |dead
 |var (T:TypeId) (cells:List AV)
 |row (T:TypeId) (sz:Nat) (rows:List (List D))
 |obj (O:OD)
 |pin (l:List (Value×AV))
instance:Inhabited Ow:=⟨.dead⟩
structure AS where
 fr:List (Nat×AV)
 hp:List Ow
def Ch:List (Nat×AV)->Nat->Option AV
 |[],_=>none
 |(a,v)::r,t=>bif Nat.beq a t then some v else Ch r t
theorem Fe:∀{l:List (Nat×AV)} {t:Nat} {I:AV},Ch l t=some I->(t,I)∈l
 |[],_,_,h=>by cases h
 |(a,v)::r,t,I,h=>by
  unfold Ch at h
  cases F:Nat.beq a t with
  |true=>
   rw[F]at h;have Z:a=t:=Yao F;have s:v=I:=Yag h;subst Z;subst s;exact Ybn
  |false=>
   rw[F]at h;exact Ybc _ (Fe h)
def DP:Value->Option Nat
 |.pointer (some a)=>some a.block
 |.slice (some a) _ _=>some a.block
 |_=>none
def fnV(f:FuncId)(K:List Value):Value:=bif Nat.blt f 1000000 then .func (.func f) #[] K.toArray else .func (.func (f-1000000)) K.toArray #[]
def AVr(m:Nat)(W:Nat->Value)(s:GS):AV->Value->Prop
 |.d x,v=>x.rel s v
 |.ptr id off,v=>id<m/\∃b,W id=.pointer (some ⟨b,0,none⟩)/\v=.pointer (some ⟨b,off,none⟩)
 |.own id,v=>id<m/\v=W id
 |.fn f Y,v=>(∀i∈Y,i<m)/\v=fnV f (Y.map W)
variable{g:AV}
theorem AVr.chg{m:Nat}{ρ:Nat->Value}{s s':GS}{v:Value}(h:AVr m ρ s g v)(I:GS.Chg s s'):AVr m ρ s' g v:=by
 cases g with
 |d x=>exact x.st h I
 |ptr id off=>exact h
 |own id=>exact h
 |fn f Y=>exact h
theorem AVr.mono{m n:Nat}{v:Value}(h:AVr m vi s g v)(C:m<=n)(E:∀i,i<m->ud i=vi i):AVr n ud s g v:=by
 cases g with
 |d x=>exact h
 |ptr id off=>
  obtain⟨A,b,B,L⟩:=h;exact⟨Yaq A C,b,(E id A).trans B,L⟩
 |own id=>exact⟨Yaq h.1 C,h.2.trans (E id h.1).symm⟩
 |fn f Y=>exact⟨λi K=>Yaq (h.1 i K) C,by rw[h.2,YaX λi K=>(E i (h.1 i K)).symm]⟩
def OwR(base m:Nat)(W:Nat->Value)(s:GS)(i:Nat):Ow->Prop
 |.dead=>True
 |.var T cells=>∃(b:Nat) (h:Array Value),W i=.pointer (some ⟨b,0,none⟩)/\base<=b/\s.w.heap[b]? = some (.cells h T (0,0))/\h.size=cells.length/\T≠335/\(∀k,¬s.S b k)/\∀(k:Nat) av,cells[k]? = some av->∃u:Value,h[k]? = some u/\u.oneCell'=true/\AVr m W s av u
 |.row T A C=>∃B:List Value,s.w.ownsRow base T A (W i) C.length B/\T≠335/\0<A/\(∀b,DP (W i)=some b->∀k,s.S b k↔k<C.length*A)/\∀k,k<C.length->(C.getD k []).length=A/\∀j,j<A->∃u,B[k*A+j]? = some u/\u.oneCell'=true/\(DK (C.getD k []) j).rel s u
 |.obj O=>O.rel s (W i)
 |.pin l=>∀p∈l,AVr m W s p.2 p.1
def OwB(s:GS)(v:Value):Ow->Nat->Prop
 |.dead,_=>False
 |.var _ _,b=>DP v=some b
 |.row _ _ _,b=>DP v=some b
 |.obj O,b=>O.blk s v b
 |.pin _,_=>False
variable{vs:Ow}
theorem OwR.blk_lt0{base m:Nat}{i:Nat}(h:OwR base m vi s i vs){b:Nat}(F:OwB s (vi i) vs b):b<s.w.heap.size:=by
 cases vs with
 |dead=>exact F.elim
 |pin l=>exact F.elim
 |obj O=>exact O.lt h F
 |var T cells=>
  obtain⟨g,C,A,B,L,_⟩:=h;replace F:DP (vi i)=some b:=F;rw[A]at F;cases F;exact Bw L
 |row T k E=>
  obtain⟨G,⟨A,B⟩,_⟩:=h;replace F:DP (vi i)=some b:=F;rcases B with⟨Z,_⟩ | ⟨g,cap,cur,Z,e2,e3,_⟩
  .rw [Z]at F;cases F
  .rw [Z]at F;cases F;exact Bw e3
theorem OwB.keep(h:OwR n b vi s T vs)(I:GS.Chg s vr)(F:∀m,OwB s (vi T) vs m->vr.w.heap[m]? = s.w.heap[m]? /\ ∀k,vr.S m k↔s.S m k)(E:OwB vr (vi T) vs m):OwB s (vi T) vs m:=by
 cases vs with
 |obj O=>exact(O.keep h I F).2 m E
 |_=>exact E
theorem OwB.le{base m:Nat}{ρ:Nat->Value}{s s':GS}{i:Nat}{o:Ow}(h:OwR base m ρ s i o)(J:GS.Le s s'){b:Nat}(E:OwB s' (ρ i) o b):OwB s (ρ i) o b:=
 OwB.keep h J.chg (λc I=>have Q:=h.blk_lt0 I;⟨J.ext.block Q,λk=>⟨J.old c k Q,J.up c k⟩⟩) E
theorem OwR.le{base m:Nat}{ρ:Nat->Value}{s s':GS}{i:Nat}{o:Ow}(h:OwR base m ρ s i o)(J:GS.Le s s'):OwR base m ρ s' i o:=by
 cases o with
 |dead=>trivial
 |var T cells=>
  obtain⟨b,E,A,B,L,S,n,M,V⟩:=h;refine⟨b,E,A,B,(J.ext.block (Bw L)).trans L,S,n,λk C=>M k (J.old b k (Bw L) C),λk R C=>?_⟩;obtain⟨u,y,X,Y⟩:=V k R C;exact⟨u,y,X,Y.chg J.chg⟩
 |row T K N=>
  obtain⟨W,⟨A,B⟩,L,S,n,M⟩:=h;refine⟨W,⟨A,?_⟩,L,S,λb F k=>?_,λk C=>⟨(M k C).1,λj a=>?_⟩⟩
  .rcases B with B | ⟨g,cap,cur,Z,e2,e3,e4⟩
   .exact .inl B
   .exact .inr ⟨g,cap,cur,Z,e2,(J.ext.block (Bw e3)).trans e3,e4⟩
  .have Q:b<s.w.heap.size:=by
    rcases B with⟨Z,_⟩ | ⟨g,cap,cur,Z,e2,e3,e4⟩
    .rw [Z]at F;cases F
    .rw [Z]at F;cases F;exact Bw e3
   exact⟨λC=>(n b F k).1 (J.old b k Q C),λC=>J.up b k ((n b F k).2 C)⟩
  .obtain ⟨u,y,X,Y⟩:=(M k C).2 j a
   exact⟨u,y,X,(DK _ j).st Y J.chg⟩
 |obj O=>exact(O.keep h J.chg λc I=>have Q:=O.lt h I;⟨J.ext.block Q,λk=>⟨J.old c k Q,J.up c k⟩⟩).1
 |pin l=>exact λp G=>(h p G).chg J.chg
def HpOk(base:Nat)(W:Nat->Value)(s:GS)(G:List Ow):Prop:=∀i o,G[i]? = some o->OwR base G.length W s i o
theorem HpOk.le{ρ:Nat->Value}{s s':GS}{hp:List Ow}(h:HpOk n ρ s hp)(J:GS.Le s s'):HpOk n ρ s' hp:=λi o K=>(h i o K).le J
def HW(hp:List Ow):AV->Option D
 |.d x=>some x
 |.own id=>match hp[id]? with
  |some (.row T k C)=>some (slD T k C)
  |_=>none
 |.ptr _ _=>none
 |.fn _ _=>none
variable{r:D}
theorem Ew{base:Nat}{ρ:Nat->Value}{hp:List Ow}{av:AV}{v:Value}(M:HpOk base ρ s hp)(h:AVr hp.length ρ s av v)(E:HW hp av=some r):r.rel s v:=by
 cases av with
 |d y=>cases E;exact h
 |ptr id off=>cases E
 |fn f Y=>cases E
 |own id=>
  obtain rfl:v=ρ id:=h.2
  replace E:(match hp[id]? with
   |some (.row T F J)=>some (slD T F J)
   |_=>none)=some r:=E
  split at E
  .rename_i T F J b
   cases E;obtain⟨K,⟨A,B⟩,L,S,n,I⟩:=M id _ b;rcases B with⟨Z,G⟩ | ⟨g,cap,cur,Z,G,e3,e4,e5,e6,e7⟩
   .rw [Z]
    exact⟨none,0,by rw[G],by omega,by omega,λc=>by omega⟩
   .rw [Z]
    refine⟨_,cap,rfl,e4,by simpa[maxLen]using e5,λc=>⟨g,0,rfl,λk C=>⟨(I k C).1,cur,(0,0),e3,λj a=>?_⟩⟩⟩;rw[(I k C).1]at a;obtain⟨u,N,O,W⟩:=(I k C).2 j a
    have Q:k*F+j<J.length*F:=by
     have:(k+1)*F<=J.length*F:=YaB F C;exact Zhd
    refine⟨by rw[YaH];exact(n g (by rw[Z];rfl) _).2 Q,u,?_,O,W⟩;rw[YaH,<-N,<-e7,YaJ,Yan Q];simp
  .cases E
def AS.arg(σ:AS):Operand->AV
 |.tmp t=>(Ch σ.fr t).getD (.d CD)
 |.const v=>.d (ex v)
 |.global g=>.d (ex (.pointer (some ⟨g,0,none⟩)))
 |.func f=>.d (ex (.func (.func f) #[] #[]))
def AS.put(σ:AS)(dst:Option Tmp)(r:AV):AS:=
 match dst with
 |some d=>{ σ with fr:=(d,r)::σ.fr }
 |none=>σ
structure GS.LeX(mine:Nat->Prop)(s s':GS):Prop where
 os:s'.w.os=s.w.os
 tape:s'.w.tape=s.w.tape
 output:s'.w.output=s.w.output
 block:∀k,k<s.w.heap.size->¬mine k->s'.w.heap[k]? = s.w.heap[k]?
 chg:GS.Chg s s'
 old:∀b k,b<s.w.heap.size->¬mine b->s'.S b k->s.S b k
 tag:∀b,b<s.w.heap.size->s'.tag b=s.tag b
 ok:s.Ok->s'.Ok
theorem GS.LeX.size{mine:Nat->Prop}{s s':GS}(h:GS.LeX mine s s'):s.w.heap.size<=s'.w.heap.size:=h.chg.size
theorem GS.LeX.refl(c:Nat->Prop)(s:GS):GS.LeX c s s:=⟨rfl,rfl,rfl,λ_ _ _=>rfl,GS.Chg.refl s,λ_ _ _ _ h=>h,λ_ _=>rfl,λh=>h⟩
theorem GS.LeX.trans{mine:Nat->Prop}{a b c:GS}(h:GS.LeX mine a b)(k:GS.Le b c):GS.LeX mine a c:=
 ⟨k.ext.os.trans h.os,k.ext.tape.trans h.tape,k.ext.output.trans h.output,λx E A=>(k.ext.block (Yaq E h.size)).trans (h.block x E A),h.chg.trans k.chg,λx j E A B=>h.old x j E A (k.old x j (Yaq E h.size) B),λx E=>(k.tag x (Yaq E h.size)).trans (h.tag x E),λB=>k.ok (h.ok B)⟩
theorem GS.LeX.le{s s':GS}{mine:Nat->Prop}(x:∀b,¬mine b)(h:GS.LeX mine s s'):GS.Le s s':=
 ⟨⟨h.os,h.tape,h.output,h.size,λk C=>h.block k C (x k)⟩,h.chg.up,λb k F=>h.old b k F (x b),h.tag,h.ok⟩
structure An where
 g:GS
 mine:Nat->Prop
 df:List Deferred
theorem GS.LeX.turn{s0:An}{s s':GS}(h:GS.LeX s0.mine s0.g s){g:Nat}(P:s0.mine g\/s0.g.w.heap.size<=g)(A:s'.w.os=s.w.os)(B:s'.w.tape=s.w.tape)(L:s'.w.output=s.w.output)(S:∀b,b<s.w.heap.size->b≠g->s'.w.heap[b]? = s.w.heap[b]? /\ ∀k,s'.S b k->s.S b k)(I:GS.Chg s s')(M:∀b,b<s.w.heap.size->s'.tag b=s.tag b)(E:s.Ok->s'.Ok):GS.LeX s0.mine s0.g s':=
 ⟨A.trans h.os,B.trans h.tape,L.trans h.output,λk C x=>(S k (Yaq C h.size) λe=>by subst e;exact P.elim x (λG=>absurd C ZbD)).1.trans (h.block k C x),h.chg.trans I,λb k F x Y=>h.old b k F x ((S b (Yaq F h.size) λe=>by subst e;exact P.elim x (λG=>absurd F ZbD)).2 k Y),λb F=>(M b (Yaq F h.size)).trans (h.tag b F),λG=>E (h.ok G)⟩
structure StI(s0:An)(n:Nat)(σ:AS)(a:Act)(s:GS)(ρ:Nat->Value):Prop where
 le:GS.LeX s0.mine s0.g s
 ok:s.Ok
 fr:∀t av,Ch σ.fr t=some av->AVr σ.hp.length ρ s av (a.tmps.getD t undef)
 sz:a.tmps.size=n
 df:a.defers=s0.df
 hp:HpOk 0 ρ s σ.hp
 sep:∀i j o o',i≠j->σ.hp[i]? = some o->σ.hp[j]? = some o'->∀b,OwB s (ρ i) o b->¬OwB s (ρ j) o' b
 own:∀i o b,σ.hp[i]? = some o->OwB s (ρ i) o b->s0.mine b\/s0.g.w.heap.size<=b
def St(s0:An)(n:Nat)(d:AS)(a:Act)(w:World):Prop:=∃(s:GS) (W:Nat->Value),s.w=w/\StI s0 n d a s W
theorem StI.arg{s0:An}{σ:AS}(h:StI s0 n σ vl s vi)(x:Operand):AVr σ.hp.length vi s (σ.arg x) (vl.eval x):=by
 cases x with
 |tmp t=>
  show AVr σ.hp.length vi s ((Ch σ.fr t).getD (.d CD)) (vl.tmps.getD t undef)
  cases J:Ch σ.fr t with
  |none=>exact trivial
  |some I=>exact h.fr t I J
 |const v=>exact rfl
 |global g=>exact rfl
 |func f=>exact rfl
theorem CY(t u:Nat)(I:AV)(l:List (Nat×AV)):Ch ((t,I)::l) u=if t=u then some I else Ch l u:=by
 show(bif Nat.beq t u then some I else Ch l u)=_
 cases F:Nat.beq t u with
 |true=>rw[Yan (Yao F)];rfl
 |false=>rw[Yai (YaI F)];rfl
theorem StI.put{s0:An}{σ:AS}{a:Act}{s s':GS}(h:StI s0 n σ a s vi)(J:GS.Le s s'){dst:Option Tmp}(e:∀d,dst=some d->d<n){v:Value}{r:AV}(X:AVr σ.hp.length vi s' r v):StI s0 n (σ.put dst r) (a.put dst v) s' vi:=by
 refine⟨h.le.trans J,J.ok h.ok,λt I M=>?_,?_,?_,?_,?_,?_⟩
 .cases dst with
  |none=>exact(h.fr t I M).chg J.chg
  |some d=>
   simp only[AS.put,CY]at M;simp only[Act.put];by_cases B:d=t
   .rw [Yan B]at M
    cases M;subst B;have:d<a.tmps.size:=by rw[h.sz];exact e d rfl
    simp[this];exact X
   .rw [Yai B]at M
    have:=(h.fr t I M).chg J.chg;rw[Yay]at this ⊢;rwa [YaP B]
 .unfold Act.put;split<;>simp[h.sz]
 .unfold Act.put;split<;>simp[h.df]
 .cases dst<;>exact h.hp.le J
 .have key:∀i j o w,i≠j->σ.hp[i]? = some o->σ.hp[j]? = some w->∀b,OwB s' (vi i) o b->¬OwB s' (vi j) w b:=λi j o w q K A b F T=>h.sep i j o w q K A b (OwB.le (h.hp i o K) J F) (OwB.le (h.hp j w A) J T)
  cases dst<;>exact key
 .have key:∀i o b,σ.hp[i]? = some o->OwB s' (vi i) o b->s0.mine b\/s0.g.w.heap.size<=b:=λi o b K F=>h.own i o b K (OwB.le (h.hp i o K) J F)
  cases dst<;>exact key
structure Quiet(P:Program)(hp:List Ow)(o:Oper)(arg:Operand->AV)(r:AV):Prop where
 run:∀(base:Nat) (s:GS) (ρ:Nat->Value) (ev:Operand->Value),s.Ok->base<=s.w.heap.size->HpOk base ρ s hp->(∀x,x∈o.op.operands->AVr hp.length ρ s (arg x) (ev x)) ->
  RegG.OpStep P o ev s λv s'=>GS.Le s s'/\AVr hp.length ρ s' r v
theorem Cc{o:Oper}{ev:Operand->Value}{R:Value->GS->Prop}{v:Value}(h:(execOp ev o).run P s.w=.ok (.value v) s.w)(E:R v s):RegG.OpStep P o ev s R:=by
 unfold RegG.OpStep;rw[h];exact⟨s,rfl,E⟩
theorem Ja{ev:Operand->Value}{R:Value->GS->Prop}{v:Value}(h:(execOp ev va).run P s.w=.ok (.value v) w)(s':GS)(d:s'.w=w)(E:R v s'):RegG.OpStep P va ev s R:=by
 unfold RegG.OpStep;rw[h];exact⟨s',d,E⟩
structure Tab(P:Program)(t:TypeId)(d:TypeDesc)(n bytes:Nat)(z:Value):Prop where
 und:P.underlying t=some d
 inf:(P.info? t).map (λi=>(i.zero,i.size,i.bytes))=some (some z,n,bytes)
theorem Tab.info(h:Tab P t d n b z):∃i,P.info? t=some i/\i.zero=some z/\i.size=n/\i.bytes=b:=by
 have:=h.inf
 cases K:P.info? t with
 |none=>rw[K]at this;cases this
 |some i=>
  rw[K]at this;simp only[Yds,Ydc,Prod.mk.injEq]at this;exact⟨i,rfl,this.1,this.2.1,this.2.2⟩
theorem Tab.run_size(h:Tab P t d n b z)(w:World):(sizeOf t).run P w=.ok n w:=by
 obtain⟨i,A,_,B,_⟩:=h.info;simp[sizeOf,typeInfo,A,B]
theorem Tab.run_zero(h:Tab P t d n b z)(w:World):(zeroValue t).run P w=.ok z w:=by
 obtain⟨i,A,B,_⟩:=h.info;simp[zeroValue,typeInfo,A,B]
def Fa:TypeDesc->Bool
 |.struct _ |.array _ _=>true
 |_=>false
theorem Tab.run_agg(h:Tab P t d n b z)(w:World):(isAgg t).run P w=.ok (Fa d) w:=by
 unfold isAgg;rw[Sem.run_bind,run_underlying h.und w];cases d<;>simp[Fa]
theorem exD{u v:Value}(h:AVr n vi s (.d (ex u)) v):v=u:=h
section
variable {P:Program} {hp:List Ow} {o:Oper} {arg:Operand->AV}
theorem Quiet.move(G:o.op=.move x\/o.op=.assign x)(E:arg x=g):Quiet P hp o arg g:=by
 subst E;refine⟨λbase s W i F y d h=>?_⟩;rcases G with G | G
 all_goals
  have A:=h x ZcP;exact Cc (v:=i x) (by simp[execOp,G]) ⟨GS.Le.refl s,A⟩
theorem CN {a b v : Value} (G : o.op = .binOp vW t x y U) (E : arg x = .d (ex a)) (O : arg y = .d (ex b)) (X : ∀ w, (do eqGuard vW t x y a b; binOp vW t a b : Sem Value).run P w = .ok v w) : Quiet P hp o arg (.d (ex v)) := by
 refine⟨λbase s W i F I d h=>?_⟩;have A:=h x ZcP;have B:=h y ZcP;rw[E]at A;rw[O]at B;have Z:i x=a:=A;have C:i y=b:=B;have:=X s.w;refine Cc (v:=v) ?_ ⟨GS.Le.refl s,rfl⟩;simp only[execOp,G,Z,C,Sem.run_bind,this,Result.andThen_ok,Sem.run_pure]
theorem Quiet.add{T U:TypeId}(G:o.op=.binOp .add T x y U)(E:arg x=.d (ex (.int .i64 a)))(O:arg y=.d (ex (.int .i64 j)))(A:-9223372036854775808<=a+j)(B:a+j<=9223372036854775807):Quiet P hp o arg (.d (ex (.int .i64 (a+j)))):=
 CN G E O λw=>by
  have e:IntKind.i64.wrap (a+j)=a+j:=IntWalk.i64_in _ ZbD;exact Zjt
theorem Quiet.sub(G:o.op=.binOp .sub t x y U)(E:arg x=.d (ex (.int .i64 a)))(O:arg y=.d (ex (.int .i64 j)))(A:-9223372036854775808<=a-j)(B:a-j<=9223372036854775807):Quiet P hp o arg (.d (ex (.int .i64 (a-j)))):=
 CN G E O λw=>by
  have e:IntKind.i64.wrap (a-j)=a-j:=IntWalk.i64_in _ ZbD;exact Zjt
theorem Quiet.mul{T U:TypeId}(G:o.op=.binOp .mul T x y U)(E:arg x=.d (ex (.int .i64 a)))(O:arg y=.d (ex (.int .i64 j)))(A:-9223372036854775808<=a*j)(B:a*j<=9223372036854775807):Quiet P hp o arg (.d (ex (.int .i64 (a*j)))):=
 CN G E O λw=>by
  have e:IntKind.i64.wrap (a*j)=a*j:=IntWalk.i64_in _ ZbD;exact Zjt
def Yq:BinOp->Int->Int->Option Bool
 |.eql,a,b=>some (a==b)
 |.neq,a,b=>some (a != b)
 |.lss,a,b=>some (decide (a<b))
 |.leq,a,b=>some (decide (a<=b))
 |.gtr,a,b=>some (decide (a>b))
 |.geq,a,b=>some (decide (a ≥ b))
 |_,_,_=>none
theorem Pf{k:IntKind}(G:o.op=.binOp vW t x y U)(E:arg x=.d (ex (.int k a)))(O:arg y=.d (ex (.int k j)))(I:Yq vW a j=some p):Quiet P hp o arg (.d (ex (.bool p))):=
 CN G E O λw=>by
  cases vW<;>simp[Yq]at I<;>subst I<;>simp[eqGuard,binOp,Op.intCmp]
theorem Quiet.not(G:o.op=.unOp .not t x)(E:arg x=.d (ex (.bool p))):Quiet P hp o arg (.d (ex (.bool (!p)))):=by
 refine⟨λbase s W i F y d h=>?_⟩;have A:=h x ZcP;rw[E]at A;have Z:i x=.bool p:=A;exact Cc (v:=.bool (!p)) (by simp[execOp,G,Z,Op.unary]) ⟨GS.Le.refl s,rfl⟩
theorem PU(G:o.op=.pick x y vS)(E:arg y=g)(I:arg x=.d (ex (.bool true))):Quiet P hp o arg g:=by
 subst E;refine⟨λbase s W i F C d h=>?_⟩;have A:=h x ZcP;have B:=h y ZcP;rw[I]at A;have Z:i x=.bool true:=A;exact Cc (v:=i y) (by simp[execOp,G,Z,asBool]) ⟨GS.Le.refl s,B⟩
theorem PV(G:o.op=.pick x y vS)(O:arg vS=g)(I:arg x=.d (ex (.bool false))):Quiet P hp o arg g:=by
 subst O;refine⟨λbase s W i F C d h=>?_⟩;have A:=h x ZcP;have B:=h vS ZcP;rw[I]at A;have Z:i x=.bool false:=A;exact Cc (v:=i vS) (by simp[execOp,G,Z,asBool]) ⟨GS.Le.refl s,B⟩
theorem SE{k I:IntKind}(G:o.op=.convert t U x)(E:arg x=.d (ex (.int k a)))(r:Tab P t d n b z)(B:Tab P U (.int I) T m u):Quiet P hp o arg (.d (ex (.int I (I.wrap a)))):=by
 refine⟨λbase s W i F y C h=>?_⟩;have A:=h x ZcP;rw[E]at A;have Z:i x=.int k a:=A;refine Cc (v:=.int I (I.wrap a)) ?_ ⟨GS.Le.refl s,rfl⟩;simp[execOp,G,Z,convert,run_underlying r.und,run_underlying B.und,Conv.intToInt]
theorem Quiet.len{e n b T k:Nat}(G:o.op=.call { callee:=.builtin .len,args:=#[x],argTypes:=#[t] })(E:HW hp (arg x)=some (slD T k vm))(M:Tab P t (.slice e) n b z):Quiet P hp o arg (.d (ex (.int .i64 vm.length))):=by
 refine⟨λbase s W i F y d h=>?_⟩;have B:=Ew d (h x ZcS) E;obtain⟨A,c,Z,C⟩:=B;refine Cc (v:=.int .i64 vm.length) ?_ ⟨GS.Le.refl s,rfl⟩;simp[execOp,G,resolve,invoke,builtin,Z,Builtin.len_,run_underlying M.und,goInt]
theorem Quiet.index{B:IntKind}(Y:o.op=.indexAddr t x y)(I:HW hp (arg x)=some (slD k h vm))(O:arg y=.d (ex (.int B a)))(M:Tab P t (.slice n) b T z)(J:Tab P n d m c u)(e:m=h)(N:0<=a)(K:a<vm.length):Quiet P hp o arg (.d (Fg k (vm.getD a.toNat []))):=by
 refine⟨λbase s W i X j f C=>?_⟩;have E:=Ew f (C x Zec) I;have F:=C y Zec;rw[O]at F;have R:i y=.int B a:=F;obtain⟨A,G,Z,L,S,Q⟩:=E;obtain⟨g,p,rfl,V⟩:=Q ZbD;subst e;refine Cc (v:=.pointer (some ⟨g,p+a.toNat*m,none⟩)) ?_ ⟨GS.Le.refl s,g,_,rfl,(V a.toNat ZbD).2⟩;simp[execOp,Y,Z,R,Instr.indexAt,asIntOf,run_underlying M.und,N,K,J.run_size,Addr.add_lit]
theorem NT{A:IntKind}(Q:o.op=.indexAddr t x y)(F:arg x=.d (Fg k v))(O:arg y=.d (ex (.int A a)))(M:Tab P t (.array h n) b T z)(G:Tab P n d m c u)(I:0<=a)(K:a<h):Quiet P hp o arg (.d (Fg k (v.drop (a.toNat*m)))):=by
 refine⟨λbase s W i N S R B=>?_⟩;have C:=B x Zdq;have E:=B y Zdq;rw[F]at C;rw[O]at E;have J:i y=.int A a:=E;obtain⟨g,p,Z,L⟩:=C;refine Cc (v:=.pointer (some ⟨g,p+a.toNat*m,none⟩)) ?_ ⟨GS.Le.refl s,g,_,rfl,L.drop _⟩;exact Zju
theorem NS{A:IntKind}(Q:o.op=.indexAddr t x y)(F:arg x=.ptr h vj)(O:arg y=.d (ex (.int A a)))(M:Tab P t (.array k n) b T z)(G:Tab P n d m c u)(I:0<=a)(K:a<k):Quiet P hp o arg (.ptr h (vj+a.toNat*m)):=by
 refine⟨λbase s W i N V R B=>?_⟩;have C:=B x Zdq;have E:=B y Zdq;rw[F]at C;rw[O]at E;have J:i y=.int A a:=E;obtain⟨S,g,L,Z⟩:=C;refine Cc (v:=.pointer (some ⟨g,vj+a.toNat*m,none⟩)) ?_ ⟨GS.Le.refl s,S,g,L,rfl⟩;exact Zju
theorem NU(G:o.op=.fieldAddr t x n)(E:arg x=.d (Fg k v))(r:Tab P t (.struct vU) b T z)(C:vU[n]? = some vZ)(B:Tab P vZ.type d m c u)(f:m≠0):Quiet P hp o arg (.d (Fg k (v.drop vZ.offset))):=by
 refine⟨λbase s W i F y I h=>?_⟩;have A:=h x ZcP;rw[E]at A;obtain⟨g,p,Z,L⟩:=A;refine Cc (v:=.pointer (some ⟨g,p+vZ.offset,none⟩)) ?_ ⟨GS.Le.refl s,g,_,rfl,L.drop _⟩;simp[execOp,G,Z,Instr.fieldAt,Instr.sureAddr,run_underlying r.und,C,fieldPlace,B.run_size,f,Addr.add_lit]
theorem Ww(I:o.op=.fieldAddr t x n)(E:arg x=.ptr k h)(r:Tab P t (.struct vU) b T z)(F:vU[n]? = some vZ)(C:Tab P vZ.type d m c u)(f:m≠0):Quiet P hp o arg (.ptr k (h+vZ.offset)):=by
 refine⟨λbase s W i G y J A=>?_⟩;have B:=A x Zeb;rw[E]at B;obtain⟨K,g,L,Z⟩:=B;refine Cc (v:=.pointer (some ⟨g,h+vZ.offset,none⟩)) ?_ ⟨GS.Le.refl s,K,g,L,rfl⟩;simp[execOp,I,Z,Instr.fieldAt,Instr.sureAddr,run_underlying r.und,F,fieldPlace,C.run_size,f,Addr.add_lit]
theorem KK(M:Tab P t d n b z)(e:Fa d=true)(g p:Nat)(f:Nat->Value)(h:∀j,j<n->w.cell? ⟨g,p+j,none⟩=some (f j)):(loadVar t ⟨g,p,none⟩).run P w=.ok (.agg ((List.range n).map f).toArray) w:=by
 have:=run_loadCells (P:=P) w ⟨g,p,none⟩ n f λj a=>by rw[Addr.add_lit];exact h j a
 simp[loadVar,M.run_agg,e,M.run_size,this]
theorem Lq(J:o.op=.load t x)(E:arg x=.d (Fg T v))(M:Tab P t d n b z)(e:Fa d=true)(B:n<=v.length):Quiet P hp o arg (.d (AP (v.take n))):=by
 refine⟨λbase s W i G y K h=>?_⟩;have A:=h x (by rw[J];simp[Op.operands]);rw[E]at A;obtain⟨g,p,Z,L⟩:=A
 have I:∀j,∃u,j<n->s.w.cell? ⟨g,p+j,none⟩=some u/\u.oneCell'=true/\(DK v j).rel s u:=λj=>by
  by_cases a:j<n
  .obtain ⟨u, S⟩:=L.cell (k:=j) ZbD
   exact⟨u,λ_=>S⟩
  .exact Zjv
 obtain⟨f,F⟩:∃f:Nat->Value,∀j,j<n->s.w.cell? ⟨g,p+j,none⟩=some (f j)/\(f j).oneCell'=true/\(DK v j).rel s (f j):=⟨λj=>(I j).choose,λj a=>(I j).choose_spec a⟩;have X:=KK M e g p f λj a=>(F j a).1;refine Cc (v:=.agg ((List.range n).map f).toArray) ?_ ⟨GS.Le.refl s,_,rfl,by simp;omega,λk C=>?_⟩
 .simp [execOp,J,Z,Instr.loadAt,Instr.sureAddr,X]
 .rw [YaO]at C
  have N:k<n:=by omega
  rw[Li N];exact⟨f k,by simp[N],(F k N).2⟩
theorem NQ(G:o.op=.load t x)(E:arg x=.d (Fg T v))(M:Tab P t d n b z)(e:Fa d=false)(f:0<v.length):Quiet P hp o arg (.d (DK v 0)):=by
 refine⟨λbase s W i F y I h=>?_⟩;have A:=h x ZcP;rw[E]at A;obtain⟨g,p,Z,L⟩:=A;obtain⟨u,S,B,C⟩:=L.cell f;refine Cc (v:=u) ?_ ⟨GS.Le.refl s,C⟩;simp at S;simp[execOp,G,Z,Instr.loadAt,Instr.sureAddr,loadVar,M.run_agg,e,S]
variable{i:List AV}
theorem NP(N:o.op=.load t x)(E:arg x=.ptr m c)(Q:hp[m]? = some (.var T i))(M:Tab P t d n b z)(e:Fa d=false)(I:i[c]? = some g):Quiet P hp o arg g:=by
 refine⟨λbase s W F K f X h=>?_⟩;have A:=h x (by rw[N];simp[Op.operands]);rw[E]at A;obtain⟨-,B,L,Z⟩:=A;obtain⟨j,C,S,G,J,O,y,R,V⟩:=X m _ Q;rw[L]at S;cases S;obtain⟨u,Y,a,q⟩:=V c g I;refine Cc (v:=u) ?_ ⟨GS.Le.refl s,q⟩;have:s.w.cell? ⟨B,c,none⟩=some u:=(Dh J).trans Y;simp[execOp,N,Z,Instr.loadAt,Instr.sureAddr,loadVar,M.run_agg,e,this]
def A0x(hp:List Ow):List AV->Option (List D)
 |[]=>some []
 |a::r=>match HW hp a,A0x hp r with
  |some x,some l=>some (x::l)
  |_,_=>none
theorem Sz{hp:List Ow}:∀{l:List AV} {R:List D},A0x hp l=some R->l.length=R.length/\∀(k:Nat) I,l[k]? = some I->HW hp I=some (DK R k)
 |[],R,h=>by cases h;exact⟨rfl,λk I C=>by cases C⟩
 |a::r,R,h=>by
  unfold A0x at h;split at h
  .rename_i x l A B
   cases h;obtain⟨L,S⟩:=Sz B;refine⟨by simp[L],λk I C=>?_⟩
   cases k with
   |zero=>cases C;exact A
   |succ k=>exact S k I ZcY
  .cases h
theorem Za(Y:o.op=.load t x)(E:arg x=.ptr m c)(p:hp[m]? = some (.var T i))(M:Tab P t d n b z)(e:Fa d=true)(I:A0x hp ((i.drop c).take n)=some v)(B:c+n<=i.length):Quiet P hp o arg (.d (AP v)):=by
 refine⟨λbase s W G V xb H h=>?_⟩;have A:=h x Zec;rw[E]at A;obtain⟨-,g,L,Z⟩:=A;obtain⟨g',F,S,K,R,l,y,r,w⟩:=H m _ p;rw[L]at S;cases S;obtain⟨J,O⟩:=Sz I;have q:v.length=n:=by rw[<-J];exact Zip
 have key:∀j,∃u,j<n->s.w.cell? ⟨g,c+j,none⟩=some u/\u.oneCell'=true/\(DK v j).rel s u:=λj=>by
  by_cases a:j<n
  .have Q:c+j<i.length:=by omega
   obtain⟨u,U,xa,xc⟩:=w (c+j) _ (Yac Q);refine⟨u,λ_=>⟨(Dh R).trans U,xa,?_⟩⟩;refine Ew H xc (O j _ ?_);rw[YaJ,Yan a,YbO,Yac Q]
  .exact Zjv
 obtain⟨f,N⟩:∃f:Nat->Value,∀j,j<n->s.w.cell? ⟨g,c+j,none⟩=some (f j)/\(f j).oneCell'=true/\(DK v j).rel s (f j):=⟨λj=>(key j).choose,λj a=>(key j).choose_spec a⟩;have X:=KK M e g c f λj a=>(N j a).1;refine Cc (v:=.agg ((List.range n).map f).toArray) ?_ ⟨GS.Le.refl s,_,rfl,by simp[q],λk C=>?_⟩
 .simp [execOp,Y,Z,Instr.loadAt,Instr.sureAddr,X]
 .rw [q]at C
  exact⟨f k,by simp[C],(N k C).2⟩
theorem A4I(M:Tab P t d n b z)(e:Fa d=true)(h:Array Value)(off:Nat):(part t h off).run P w=.ok (.agg (h.extract off (off+n))) w:=by
 simp[part,M.run_agg,e,M.run_size]
theorem A5Y{E:Array Value}(A:E.size=v.length)(B:∀k,k<v.length->∃u,E[k]? = some u/\u.oneCell'=true/\(DK v k).rel s u)(h:n+b<=v.length):(AP ((v.drop n).take b)).rel s (.agg (E.extract n (n+b))):=by
 refine⟨_,rfl,by simp;omega,λk C=>?_⟩;have C:k<b:=by simp at C;omega
 obtain⟨u,L,S⟩:=B (n+k) ZbD;rw[Li C,II];refine⟨u,?_,S⟩;rw[YdC,Yan ZbD];exact L
theorem A3G{A:IntKind}(Q:o.op=.index t x y)(E:arg x=.d (AP v))(O:arg y=.d (ex (.int A a)))(M:Tab P t (.array k n) b T z)(F:Tab P n d m c u)(e:Fa d=true)(G:0<=a)(K:a<k)(f:a.toNat*m+m<=v.length):Quiet P hp o arg (.d (AP ((v.drop (a.toNat*m)).take m))):=by
 refine⟨λbase s W i N V R h=>?_⟩;have B:=h x Zdq;have C:=h y Zdq;rw[E]at B;rw[O]at C;have J:i y=.int A a:=C;obtain⟨I,Z,L,S⟩:=B;refine Cc (v:=.agg (I.extract (a.toNat*m) (a.toNat*m+m))) ?_ ⟨GS.Le.refl s,A5Y L S f⟩;simp[execOp,Q,Z,J,Instr.index,asIntOf,run_underlying M.und,G,K,F.run_size,A4I F e]
theorem Uz{k:IntKind}(V:o.op=.index t x y)(E:arg x=.d (AP v))(O:arg y=.d (ex (.int k a)))(M:Tab P t (.array c n) b T z)(F:Tab P n d 1 m u)(e:Fa d=false)(G:0<=a)(K:a<c)(f:a.toNat<v.length):Quiet P hp o arg (.d (DK v a.toNat)):=by
 refine⟨λbase s W i R Y X h=>?_⟩;have A:=h x Zdr;have B:=h y Zdr;rw[E]at A;rw[O]at B;have N:i y=.int k a:=B;obtain⟨I,Z,L,S⟩:=A;obtain⟨C,J,Q,g⟩:=S _ f;refine Cc (v:=C) ?_ ⟨GS.Le.refl s,g⟩;simp[execOp,V,Z,N,Instr.index,asIntOf,run_underlying M.und,G,K,F.run_size,part,F.run_agg,e,J]
theorem Quiet.extract{i:Nat}(I:o.op=.extract x i)(E:arg x=.d (FY v))(K:i<v.length):Quiet P hp o arg (.d (DK v i)):=by
 refine⟨λbase s W F G y d h=>?_⟩;have A:=h x Zeb;rw[E]at A;obtain⟨C,Z,B,L⟩:=A;obtain⟨u,S,n⟩:=L i K;exact Cc (v:=u) (by simp[execOp,I,Z,Instr.extract,S]) ⟨GS.Le.refl s,n⟩
end
def Abs(P:Program)(f:FuncId)(ds:List D)(r:D):Prop:=
 (∀args w,(callFunc f args).run P w=.ok (.enter f args) w)/\∀(s:GS) (K:List Value),s.Ok->K.length=ds.length->(∀k,k<ds.length->(DK ds k).rel s (K.getD k undef)) ->
  Calls P f K.toArray s.w λe N=>∃v,e=.returned v/\∃j:GS,j.w=N/\GS.Le s j/\r.rel j v
def ArgsLe(G:List Ow)(arg:Operand->AV):List Operand->List D->Prop
 |[],[]=>True
 |x::l,d::R=>(∃y,HW G (arg x)=some y/\D.le y d)/\ArgsLe G arg l R
 |_,_=>False
variable{vC:Operand->AV}
theorem ArgsLe.nil{hp:List Ow}:ArgsLe hp vC [] []:=trivial
variable{H:List Ow}
theorem ArgsLe.cons{l:List Operand}{d y:D}{ds:List D}(h:HW H (vC x)=some y)(J:D.le y d)(X:ArgsLe H vC l ds):ArgsLe H vC (x::l) (d::ds):=⟨⟨y,h,J⟩,X⟩
theorem ArgsLe.rel{base:Nat}{ρ:Nat->Value}{s:GS}{hp:List Ow}{arg:Operand->AV}{ev:Operand->Value}(F:HpOk base ρ s hp):∀{l:List Operand} {R:List D},ArgsLe hp arg l R->(∀x∈l,AVr hp.length ρ s (arg x) (ev x))->l.length=R.length/\∀k,k<R.length->(DK R k).rel s ((l.map ev).getD k undef)
 |[],[],_,_=>⟨rfl,λk C=>absurd C ZbS⟩
 |[],_::_,h,_=>h.elim
 |_::_,[],h,_=>h.elim
 |x::l,d::R,⟨⟨y,A,B⟩,L⟩,h=>by
  obtain⟨S,n⟩:=ArgsLe.rel F L λx E=>h x (Ybc _ E);refine⟨by simp[S],λk C=>?_⟩
  cases k with
  |zero=>exact B s _ (Ew F (h x Ybn) A)
  |succ k=>exact n k ZcY
theorem Quiet.call{o:Oper}{f:Operand}(G:o.op=.call { callee:=.value f,args:=vO.toArray,argTypes:=vt })(t:vC f=.d (ex (.func (.func vd) #[] #[])))(I:Abs P vd v r)(p:ArgsLe H vC vO v):Quiet P H o vC (.d r):=by
 refine⟨λbase s W i F y d h=>?_⟩;have A:=h f ZcS;rw[t]at A;have Z:i f=.func (.func vd) #[] #[]:=A;obtain⟨B,L⟩:=ArgsLe.rel (ev:=i) d p λx E=>h x (by rw[G];simp[Op.operands,Call.operands,E]);have S:=I.2 s (vO.map i) F ZeX L;unfold RegG.OpStep
 have K:(execOp i o).run P s.w=.ok (.enter vd (vO.map i).toArray) s.w:=by
  simp[execOp,G,resolve,Z,Deferred.ofValue,invoke,I.1]
 rw[K];exact S.mono λe N ⟨C,b,j,Y,J,X⟩=>⟨C,b,j,Y,J,X⟩
structure TyRow where
 t:TypeId
 d:TypeDesc
 n:Nat
 b:Nat
 z:Value
def A1z : List TyRow := [⟨2, .int .i64, 1, 8, .int .i64 0⟩, ⟨3, .int .i64, 1, 8, .int .i64 0⟩, ⟨4, .bool, 1, 1, .bool false⟩, ⟨5, .int .u8, 1, 1, .int .u8 0⟩, ⟨6, .int .u8, 1, 1, .int .u8 0⟩, ⟨8, .struct #[⟨"x",2,0,false,"","runtime",0⟩, ⟨"y",3,1,false,"","runtime",8⟩, ⟨"signed",4,2,false,"","runtime",16⟩, ⟨"code",6,3,false,"","runtime",17⟩], 4, 24, .agg #[.int .i64 0, .int .i64 0, .bool false, .int .u8 0]⟩, ⟨9, .string, 1, 16, .string ByteArray.empty⟩, ⟨10, .string, 1, 16, .string ByteArray.empty⟩, ⟨11, .string, 1, 16, .string ByteArray.empty⟩, ⟨12, .int .u64, 1, 8, .int .u64 0⟩, ⟨14, .struct #[⟨"msg",9,0,false,"","runtime",0⟩, ⟨"addr",12,1,false,"","runtime",16⟩], 2, 24, .agg #[.string ByteArray.empty, .int .u64 0]⟩, ⟨19, .struct #[⟨"typ",17,0,false,"","internal/runtime/maps",0⟩], 1, 8, .agg #[.pointer none]⟩, ⟨22, .slice 5, 1, 24, .slice none 0 0⟩, ⟨24, .slice 28, 1, 24, .slice none 0 0⟩, ⟨26, .struct #[⟨"N",3,0,false,"","",0⟩, ⟨"Eqs",24,1,false,"","",8⟩, ⟨"Neqs",24,2,false,"","",32⟩], 3, 56, .agg #[.int .i64 0, .slice none 0 0, .slice none 0 0]⟩, ⟨27, .slice 114, 1, 24, .slice none 0 0⟩, ⟨28, .slice 114, 1, 24, .slice none 0 0⟩, ⟨29, .slice 36, 1, 24, .slice none 0 0⟩, ⟨30, .slice 36, 1, 24, .slice none 0 0⟩, ⟨31, .slice 3, 1, 24, .slice none 0 0⟩, ⟨32, .slice 131, 1, 24, .slice none 0 0⟩, ⟨34, .struct #[⟨"Kind",3,0,false,"","",0⟩, ⟨"P",28,1,false,"","",8⟩, ⟨"N",3,2,false,"","",32⟩, ⟨"D",3,3,false,"","",40⟩, ⟨"R",3,4,false,"","",48⟩, ⟨"O",30,5,false,"","",56⟩, ⟨"L",24,6,false,"","",80⟩, ⟨"S",31,7,false,"","",104⟩, ⟨"B",32,8,false,"","",128⟩], 9, 152, .agg #[.int .i64 0, .slice none 0 0, .int .i64 0, .int .i64 0, .int .i64 0, .slice none 0 0, .slice none 0 0, .slice none 0 0, .slice none 0 0]⟩, ⟨35, .slice 24, 1, 24, .slice none 0 0⟩, ⟨36, .array 8 3, 8, 64, .agg #[.int .i64 0, .int .i64 0, .int .i64 0, .int .i64 0, .int .i64 0, .int .i64 0, .int .i64 0, .int .i64 0]⟩, ⟨37, .slice 111, 1, 24, .slice none 0 0⟩, ⟨38, .slice 111, 1, 24, .slice none 0 0⟩, ⟨39, .array 8 38, 8, 192, .agg #[.slice none 0 0, .slice none 0 0, .slice none 0 0, .slice none 0 0, .slice none 0 0, .slice none 0 0, .slice none 0 0, .slice none 0 0]⟩, ⟨41, .struct #[⟨"L",36,0,false,"","",0⟩, ⟨"Q",38,8,false,"","",64⟩, ⟨"R",39,9,false,"","",88⟩], 17, 280, .agg #[.int .i64 0, .int .i64 0, .int .i64 0, .int .i64 0, .int .i64 0, .int .i64 0, .int .i64 0, .int .i64 0, .slice none 0 0, .slice none 0 0, .slice none 0 0, .slice none 0 0, .slice none 0 0, .slice none 0 0, .slice none 0 0, .slice none 0 0, .slice none 0 0]⟩, ⟨42, .slice 129, 1, 24, .slice none 0 0⟩, ⟨43, .slice 184, 1, 24, .slice none 0 0⟩, ⟨44, .slice 187, 1, 24, .slice none 0 0⟩, ⟨46, .struct #[⟨"N",3,0,false,"","",0⟩, ⟨"Cof",24,1,false,"","",8⟩, ⟨"G",24,2,false,"","",32⟩, ⟨"O",30,3,false,"","",56⟩, ⟨"C",35,4,false,"","",80⟩, ⟨"Q",35,5,false,"","",104⟩, ⟨"S",35,6,false,"","",128⟩, ⟨"R",41,7,false,"","",152⟩, ⟨"At",42,24,false,"","",432⟩, ⟨"Sq",43,25,false,"","",456⟩, ⟨"X",44,26,false,"","",480⟩, ⟨"B",32,27,false,"","",504⟩], 28, 528, .agg #[.int .i64 0, .slice none 0 0, .slice none 0 0, .slice none 0 0, .slice none 0 0, .slice none 0 0, .slice none 0 0, .int .i64 0, .int .i64 0, .int .i64 0, .int .i64 0, .int .i64 0, .int .i64 0, .int .i64 0, .int .i64 0, .slice none 0 0, .slice none 0 0, .slice none 0 0, .slice none 0 0, .slice none 0 0, .slice none 0 0, .slice none 0 0, .slice none 0 0, .slice none 0 0, .slice none 0 0, .slice none 0 0, .slice none 0 0, .slice none 0 0]⟩, ⟨48, .struct #[⟨"K",26,0,false,"","",0⟩, ⟨"C",34,3,false,"","",56⟩, ⟨"E",46,12,false,"","",208⟩], 40, 736, .agg #[.int .i64 0, .slice none 0 0, .slice none 0 0, .int .i64 0, .slice none 0 0, .int .i64 0, .int .i64 0, .int .i64 0, .slice none 0 0, .slice none 0 0, .slice none 0 0, .slice none 0 0, .int .i64 0, .slice none 0 0, .slice none 0 0, .slice none 0 0, .slice none 0 0, .slice none 0 0, .slice none 0 0, .int .i64 0, .int .i64 0, .int .i64 0, .int .i64 0, .int .i64 0, .int .i64 0, .int .i64 0, .int .i64 0, .slice none 0 0, .slice none 0 0, .slice none 0 0, .slice none 0 0, .slice none 0 0, .slice none 0 0, .slice none 0 0, .slice none 0 0, .slice none 0 0, .slice none 0 0, .slice none 0 0, .slice none 0 0, .slice none 0 0]⟩, ⟨49, .int .i64, 1, 8, .int .i64 0⟩, ⟨55, .slice 212, 1, 24, .slice none 0 0⟩, ⟨56, .slice 64, 1, 24, .slice none 0 0⟩, ⟨58, .struct #[⟨"Kind",5,0,false,"","",0⟩, ⟨"L",55,1,false,"","",8⟩, ⟨"V",56,2,false,"","",32⟩], 3, 56, .agg #[.int .u8 0, .slice none 0 0, .slice none 0 0]⟩, ⟨59, .int .u16, 1, 2, .int .u16 0⟩, ⟨61, .slice 22, 1, 24, .slice none 0 0⟩, ⟨63, .array 2 58, 6, 112, .agg #[.int .u8 0, .slice none 0 0, .slice none 0 0, .int .u8 0, .slice none 0 0, .slice none 0 0]⟩, ⟨64, .int .i8, 1, 1, .int .i8 0⟩, ⟨65, .array 2 64, 2, 2, .agg #[.int .i8 0, .int .i8 0]⟩, ⟨67, .struct #[⟨"Kind",3,0,false,"","",0⟩, ⟨"P",28,1,false,"","",8⟩, ⟨"O",30,2,false,"","",32⟩], 3, 56, .agg #[.int .i64 0, .slice none 0 0, .slice none 0 0]⟩, ⟨83, .struct #[⟨"Part",5,0,false,"","",0⟩, ⟨"At",5,1,false,"","",1⟩, ⟨"By",3,2,false,"","",8⟩], 3, 16, .agg #[.int .u8 0, .int .u8 0, .int .i64 0]⟩, ⟨92, .struct #[⟨"b",22,0,false,"","eliminant/claim",0⟩], 1, 24, .agg #[.slice none 0 0]⟩, ⟨95, .struct #[⟨"B",22,0,false,"","",0⟩, ⟨"Ok",4,1,false,"","",24⟩], 2, 32, .agg #[.slice none 0 0, .bool false]⟩, ⟨103, .struct #[⟨"b",22,0,false,"","eliminant/claim",0⟩], 1, 24, .agg #[.slice none 0 0]⟩, ⟨107, .slice 335, 1, 24, .slice none 0 0⟩, ⟨109, .struct #[⟨"Neg",4,0,false,"","",0⟩, ⟨"Mag",107,1,false,"","",8⟩], 2, 32, .agg #[.bool false, .slice none 0 0]⟩, ⟨111, .struct #[⟨"Num",109,0,false,"","",0⟩, ⟨"Den",109,2,false,"","",32⟩], 4, 64, .agg #[.bool false, .slice none 0 0, .bool false, .slice none 0 0]⟩, ⟨112, .array 8 3, 8, 64, .agg #[.int .i64 0, .int .i64 0, .int .i64 0, .int .i64 0, .int .i64 0, .int .i64 0, .int .i64 0, .int .i64 0]⟩, ⟨114, .struct #[⟨"C",111,0,false,"","",0⟩, ⟨"M",112,4,false,"","",64⟩], 12, 128, .agg #[.bool false, .slice none 0 0, .bool false, .slice none 0 0, .int .i64 0, .int .i64 0, .int .i64 0, .int .i64 0, .int .i64 0, .int .i64 0, .int .i64 0, .int .i64 0]⟩, ⟨129, .struct #[⟨"Lo",111,0,false,"","",0⟩, ⟨"Hi",111,4,false,"","",64⟩], 8, 128, .agg #[.bool false, .slice none 0 0, .bool false, .slice none 0 0, .bool false, .slice none 0 0, .bool false, .slice none 0 0]⟩, ⟨131, .array 8 129, 64, 1024, .agg #[.bool false, .slice none 0 0, .bool false, .slice none 0 0, .bool false, .slice none 0 0, .bool false, .slice none 0 0, .bool false, .slice none 0 0, .bool false, .slice none 0 0, .bool false, .slice none 0 0, .bool false, .slice none 0 0, .bool false, .slice none 0 0, .bool false, .slice none 0 0, .bool false, .slice none 0 0, .bool false, .slice none 0 0, .bool false, .slice none 0 0, .bool false, .slice none 0 0, .bool false, .slice none 0 0, .bool false, .slice none 0 0, .bool false, .slice none 0 0, .bool false, .slice none 0 0, .bool false, .slice none 0 0, .bool false, .slice none 0 0, .bool false, .slice none 0 0, .bool false, .slice none 0 0, .bool false, .slice none 0 0, .bool false, .slice none 0 0, .bool false, .slice none 0 0, .bool false, .slice none 0 0, .bool false, .slice none 0 0, .bool false, .slice none 0 0, .bool false, .slice none 0 0, .bool false, .slice none 0 0, .bool false, .slice none 0 0, .bool false, .slice none 0 0]⟩, ⟨139, .struct #[⟨"k",26,0,false,"","eliminant/claim",0⟩], 3, 56, .agg #[.int .i64 0, .slice none 0 0, .slice none 0 0]⟩, ⟨143, .struct #[⟨"rules",139,0,true,"","eliminant/claim",0⟩, ⟨"c",34,3,false,"","eliminant/claim",56⟩], 12, 208, .agg #[.int .i64 0, .slice none 0 0, .slice none 0 0, .int .i64 0, .slice none 0 0, .int .i64 0, .int .i64 0, .int .i64 0, .slice none 0 0, .slice none 0 0, .slice none 0 0, .slice none 0 0]⟩, ⟨150, .struct #[⟨"claims",143,0,true,"","eliminant/claim",0⟩, ⟨"e",46,12,false,"","eliminant/claim",208⟩], 40, 736, .agg #[.int .i64 0, .slice none 0 0, .slice none 0 0, .int .i64 0, .slice none 0 0, .int .i64 0, .int .i64 0, .int .i64 0, .slice none 0 0, .slice none 0 0, .slice none 0 0, .slice none 0 0, .int .i64 0, .slice none 0 0, .slice none 0 0, .slice none 0 0, .slice none 0 0, .slice none 0 0, .slice none 0 0, .int .i64 0, .int .i64 0, .int .i64 0, .int .i64 0, .int .i64 0, .int .i64 0, .int .i64 0, .int .i64 0, .slice none 0 0, .slice none 0 0, .slice none 0 0, .slice none 0 0, .slice none 0 0, .slice none 0 0, .slice none 0 0, .slice none 0 0, .slice none 0 0, .slice none 0 0, .slice none 0 0, .slice none 0 0, .slice none 0 0]⟩, ⟨152, .struct #[⟨"N",4,0,false,"","",0⟩, ⟨"Cof",4,1,false,"","",1⟩, ⟨"G",4,2,false,"","",2⟩, ⟨"O",4,3,false,"","",3⟩, ⟨"C",4,4,false,"","",4⟩, ⟨"Q",4,5,false,"","",5⟩, ⟨"S",4,6,false,"","",6⟩, ⟨"R",4,7,false,"","",7⟩, ⟨"At",4,8,false,"","",8⟩, ⟨"Sq",4,9,false,"","",9⟩, ⟨"X",4,10,false,"","",10⟩, ⟨"B",4,11,false,"","",11⟩], 12, 12, .agg #[.bool false, .bool false, .bool false, .bool false, .bool false, .bool false, .bool false, .bool false, .bool false, .bool false, .bool false, .bool false]⟩, ⟨184, .struct #[⟨"A",111,0,false,"","",0⟩, ⟨"P",28,4,false,"","",64⟩], 5, 88, .agg #[.bool false, .slice none 0 0, .bool false, .slice none 0 0, .slice none 0 0]⟩, ⟨187, .array 8 111, 32, 512, .agg #[.bool false, .slice none 0 0, .bool false, .slice none 0 0, .bool false, .slice none 0 0, .bool false, .slice none 0 0, .bool false, .slice none 0 0, .bool false, .slice none 0 0, .bool false, .slice none 0 0, .bool false, .slice none 0 0, .bool false, .slice none 0 0, .bool false, .slice none 0 0, .bool false, .slice none 0 0, .bool false, .slice none 0 0, .bool false, .slice none 0 0, .bool false, .slice none 0 0, .bool false, .slice none 0 0, .bool false, .slice none 0 0]⟩, ⟨195, .struct #[⟨"N",64,0,false,"","",0⟩, ⟨"D",64,1,false,"","",1⟩, ⟨"K",5,2,false,"","",2⟩], 3, 3, .agg #[.int .i8 0, .int .i8 0, .int .u8 0]⟩, ⟨201, .int .u64, 1, 8, .int .u64 0⟩, ⟨210, .slice 299, 1, 24, .slice none 0 0⟩, ⟨212, .struct #[⟨"T",210,0,false,"","",0⟩], 1, 24, .agg #[.slice none 0 0]⟩, ⟨222, .array 3 3, 3, 24, .agg #[.int .i64 0, .int .i64 0, .int .i64 0]⟩, ⟨225, .struct #[⟨"lo",3,0,false,"","eliminant/claim",0⟩, ⟨"hi",3,1,false,"","eliminant/claim",8⟩], 2, 16, .agg #[.int .i64 0, .int .i64 0]⟩, ⟨231, .struct #[⟨"Low",3,0,false,"","",0⟩, ⟨"High",3,1,false,"","",8⟩], 2, 16, .agg #[.int .i64 0, .int .i64 0]⟩, ⟨243, .int .u64, 1, 8, .int .u64 0⟩, ⟨299, .array 5 64, 5, 5, .agg #[.int .i8 0, .int .i8 0, .int .i8 0, .int .i8 0, .int .i8 0]⟩, ⟨315, .array 8 4, 8, 8, .agg #[.bool false, .bool false, .bool false, .bool false, .bool false, .bool false, .bool false, .bool false]⟩, ⟨321, .slice 38, 1, 24, .slice none 0 0⟩, ⟨335, .int .u32, 1, 4, .int .u32 0⟩, ⟨346, .slice 109, 1, 24, .slice none 0 0⟩, ⟨375, .int .u8, 1, 1, .int .u8 0⟩]
def TD:List TyRow->Nat->Option TyRow
 |[],_=>none
 |p::r,t=>bif Nat.beq p.t t then some p else TD r t
def A0B:List TyRow->Prop
 |[]=>True
 |p::r=>Tab prog p.t p.d p.n p.b p.z/\A0B r
theorem A1B:A0B A1z:=⟨⟨underlying2,by kernel_rfl⟩,⟨underlying3,by kernel_rfl⟩,⟨underlying4,by kernel_rfl⟩,⟨underlying5,by kernel_rfl⟩,⟨underlying6,by kernel_rfl⟩,⟨underlying8,by kernel_rfl⟩,⟨underlying9,by kernel_rfl⟩,⟨underlying10,by kernel_rfl⟩,⟨underlying11,by kernel_rfl⟩,⟨underlying12,by kernel_rfl⟩,⟨underlying14,by kernel_rfl⟩,⟨underlying19,by kernel_rfl⟩,⟨underlying22,by kernel_rfl⟩,⟨underlying24,by kernel_rfl⟩,⟨underlying26,by kernel_rfl⟩,⟨underlying27,by kernel_rfl⟩,⟨underlying28,by kernel_rfl⟩,⟨underlying29,by kernel_rfl⟩,⟨underlying30,by kernel_rfl⟩,⟨underlying31,by kernel_rfl⟩,⟨underlying32,by kernel_rfl⟩,⟨underlying34,by kernel_rfl⟩,⟨underlying35,by kernel_rfl⟩,⟨underlying36,by kernel_rfl⟩,⟨underlying37,by kernel_rfl⟩,⟨underlying38,by kernel_rfl⟩,⟨underlying39,by kernel_rfl⟩,⟨underlying41,by kernel_rfl⟩,⟨underlying42,by kernel_rfl⟩,⟨underlying43,by kernel_rfl⟩,⟨underlying44,by kernel_rfl⟩,⟨underlying46,by kernel_rfl⟩,⟨underlying48,by kernel_rfl⟩,⟨underlying49,by kernel_rfl⟩,⟨underlying55,by kernel_rfl⟩,⟨underlying56,by kernel_rfl⟩,⟨underlying58,by kernel_rfl⟩,⟨underlying59,by kernel_rfl⟩,⟨underlying61,by kernel_rfl⟩,⟨underlying63,by kernel_rfl⟩,⟨underlying64,by kernel_rfl⟩,⟨underlying65,by kernel_rfl⟩,⟨underlying67,by kernel_rfl⟩,⟨underlying83,by kernel_rfl⟩,⟨underlying92,by kernel_rfl⟩,⟨underlying95,by kernel_rfl⟩,⟨underlying103,by kernel_rfl⟩,⟨underlying107,by kernel_rfl⟩,⟨underlying109,by kernel_rfl⟩,⟨underlying111,by kernel_rfl⟩,⟨underlying112,by kernel_rfl⟩,⟨underlying114,by kernel_rfl⟩,⟨underlying129,by kernel_rfl⟩,⟨underlying131,by kernel_rfl⟩,⟨underlying139,by kernel_rfl⟩,⟨underlying143,by kernel_rfl⟩,⟨underlying150,by kernel_rfl⟩,⟨underlying152,by kernel_rfl⟩,⟨underlying184,by kernel_rfl⟩,⟨underlying187,by kernel_rfl⟩,⟨underlying195,by kernel_rfl⟩,⟨underlying201,by kernel_rfl⟩,⟨underlying210,by kernel_rfl⟩,⟨underlying212,by kernel_rfl⟩,⟨underlying222,by kernel_rfl⟩,⟨underlying225,by kernel_rfl⟩,⟨underlying231,by kernel_rfl⟩,⟨underlying243,by kernel_rfl⟩,⟨underlying299,by kernel_rfl⟩,⟨underlying315,by kernel_rfl⟩,⟨underlying321,by kernel_rfl⟩,⟨underlying335,by kernel_rfl⟩,⟨underlying346,by kernel_rfl⟩,⟨underlying375,by kernel_rfl⟩,trivial⟩
theorem QU:∀{l:List TyRow},A0B l->∀{t:Nat} {p:TyRow},TD l t=some p->p.t=t/\Tab prog p.t p.d p.n p.b p.z
 |[],_,_,_,h=>by cases h
 |q::l,⟨A,B⟩,t,p,h=>by
  unfold TD at h
  cases F:Nat.beq q.t t with
  |true=>rw[F]at h;cases h;exact⟨Yao F,A⟩
  |false=>rw[F]at h;exact QU B h
theorem Aa(h:TD A1z t=some ⟨t,d,n,b,z⟩):Tab prog t d n b z:=(QU A1B h).2
end
