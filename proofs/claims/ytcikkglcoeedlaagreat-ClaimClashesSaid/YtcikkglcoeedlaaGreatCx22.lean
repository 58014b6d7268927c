/- Part 22 of the proof of claimClashes_holds. No condition. -/
import Derived.Test.YtcikkglcoeedlaaGreatCx21
set_option linter.unusedSimpArgs false
set_option linter.unusedVariables false
set_option maxRecDepth 100000
namespace Go.Proofs.YtcikkglcoeedlaaGreat
variable{vt:AV->List Ow->Prop}{vi:Act}{vG:Array Edge}{vs:Array TypeId}{r:D}{vl:Exit->AS->Prop}{vb:FuncId}{uG:List (List (Nat×Nat))}{vd:List (Nat×AV)}{o:List AV}{l:List Nat}{vf:List Oper}{vJ:List Operand}{H vw:List Ow}{vO:List PanicEntry}{n b T:Nat}{vg:Nat->Value}{x y:Operand}{vS:Option (Nat×Bool)}{vA:Option Tmp}{P:Program}{vB uW:Prop}{vF:String}{z v:Value}
section
open Go.RowKit
theorem A4k{s:GS}(B:s.Ok)(m:Nat->Value){T sz:Nat}(C:T≠335)(g:0<sz):∃(c:GS) (F:Nat->Value),c.w=s.w.alloc (.cells #[] T)/\F 0=.slice (some ⟨s.w.heap.size,0,none⟩) 0 0/\Aft s m [.row T sz []] [0] c F [.row T sz []]:=by
 obtain⟨c,F,V,w⟩:=Sd (s0:=⟨s,λ_=>False,[]⟩) (n:=1) (σ:=⟨[],[]⟩) (ρ:=m) (a:={ tmps:=#[undef],defers:=[] }) (s:=s) (T:=T) (sz:=sz) (arr:=#[]) (cap:=0) (dst:=some 0) ⟨GS.LeX.refl _ s,B,(λt H M=>by cases M),rfl,rfl,(λi o K=>by simp at K),(λi j o k G K=>by simp at K),λi o b K=>by simp at K⟩ C g (by simp[maxLen]) ZbK rfl;have A:=w.fr 0 (.own 0) rfl;refine⟨c,F,V,A.2.symm,(GS.LeX.refl _ s).trans (w.le.le (λb h=>h)),w.ok,w.hp,w.sep,λi o b K E=>.inr ((w.own i o b K E).resolve_left λh=>h),λi K u=>absurd K (λh=>u (by simp at h ⊢;exact h)),Nat.le_refl _⟩
inductive CK
 |q (r:AV)
 |o (k:Nat)
 |t (k:Nat)
def CK.hr:CK->HR
 |.q r=>.av r
 |_=>.av (.d Cw)
def CK.isO(k:Nat):CK->Bool
 |.o j=>Nat.beq j k
 |_=>false
def CK.isT(k:Nat):CK->Bool
 |.t j=>Nat.beq j k
 |_=>false
theorem ZW{c:CK}(h:c.isO n=true):c=.o n:=by
 cases c with
 |o j=>rw[Nat.eq_of_beq_eq_true h]
 |_=>cases h
theorem ZV{c:CK}(h:c.isT n=true):c=.t n:=by
 cases c with
 |t j=>rw[Nat.eq_of_beq_eq_true h]
 |_=>cases h
def atK(N:List CK)(i:Nat)(p:CK->Bool):Bool:=match N[i]? with | some c=>p c | none=>false
def Se:Op->Option Operand
 |.move x=>some x
 |.assign x=>some x
 |_=>none
def Sg:Op->Option (FuncId×Operand×Operand)
 |.call { callee:=.value (.func f),args:=#[x,y],.. }=>some (f,x,y)
 |_=>none
def A5I:Op->Bool
 |.buildSlice _ 0 #[]=>true
 |_=>false
def MS(L:List Oper)(e:List (Nat×Nat)):Operand->Bool
 |.tmp t=>(e.any λp=>p.1==t)||(L.all λk=>k.dst != some t)
 |_=>true
def Oh(N:List CK)(e:List (Nat×Nat))(u:Option Nat)(k:Nat)(m:Nat->Nat):Operand->Bool
 |.tmp x=>(Nat.beq k 0&&u==some x)||e.any λp=>p.1==x&&((atK N p.2 (CK.isO k))||(Nat.blt 0 k&&p.2==m (k-1)))
 |_=>false
def A4N(L:List Oper)(l:List (List (Nat×Nat)))(N:List CK)(J:List (Nat×AV))(n:Nat)(A:Option Nat)(K:Nat)(m:Nat->Nat):Bool:=
 Nat.beq L.length l.length&&Nat.beq L.length N.length&&(J.all λp=>L.all λu=>u.dst != some p.1)&&((List.range K).all λk=>atK N (m k) (CK.isT k)) &&
 (List.range L.length).all λi=>match L[i]?,l[i]?,N[i]? with
  |some o,some e,some c=>Bz o.op&&o.guard.isNone&&((Bp o).all λk=>decide (k<i))&&(e.all λp=>(Bp o).contains p.2&&(match L[p.2]? with |some u=>u.dst==some p.1 |none=>false)) &&
   (match o.dst with | none=>false | some d=>decide (d<n)&&((List.range L.length).all λj=>j==i||(match L[j]? with | some u=>u.dst != some d | none=>true))) &&
   (match c with
    |.q _=>(match A with |some t=>o.dst != some t |none=>true)&&o.op.operands.all (MS L e)
    |.o k=>Nat.ble k K&&(Nat.beq k 0||(Bp o).contains (m (k-1)))&&(Nat.beq k K||(match L[m k]? with |some u=>(Bp u).contains i |none=>false))&&(match Se o.op with |some x=>Oh N e A k m x |none=>false)
    |.t k=>Nat.blt k K&&i==m k&&(Nat.beq k 0||(Bp o).contains (m (k-1)))&&(A5I o.op||match Sg o.op with |some (_,x,y)=>Oh N e A k m x&&MS L e y |none=>false))
  |_,_,_=>false
structure ChkC(L:List Oper)(ks:List CK)(n:Nat)(tb:Option Nat)(K:Nat)(tp:Nat->Nat)(i:Nat)(o:Oper)(e:List (Nat×Nat))(c:CK)(d:Nat):Prop where
 ns:Bz o.op=true
 gd:o.guard=none
 lt:∀k∈Bp o,k<i
 env:∀p∈e,p.2∈Bp o/\∃o',L[p.2]? = some o'/\o'.dst=some p.1
 dst:o.dst=some d
 dn:d<n
 du:∀(j:Nat) o',L[j]? = some o'->o'.dst=some d->j=i
 kq:∀r,c=.q r->tb≠some d/\∀y∈o.op.operands,MS L e y=true
 ko:∀k,c=.o k->k<=K/\(k=0\/tp (k-1)∈Bp o)/\(k=K\/∃o',L[tp k]? = some o'/\i∈Bp o')/\∃x,Se o.op=some x/\Oh ks e tb k tp x=true
 kt:∀k,c=.t k->k<K/\i=tp k/\(k=0\/tp (k-1)∈Bp o)/\(A5I o.op=true\/∃f x y,Sg o.op=some (f,x,y)/\Oh ks e tb k tp x=true/\MS L e y=true)
theorem A37{O:List CK}{w:Option Nat}{t:Nat->Nat}(h:A4N vf uG O vd n w b t=true):vf.length=O.length/\(∀p∈vd,∀K∈vf,K.dst≠some p.1)/\(∀k,k<b->O[t k]? = some (.t k))/\∀(i:Nat) o,vf[i]? = some o->∃e c d,uG[i]? = some e/\O[i]? = some c/\ChkC vf O n w b t i o e c d:=by
 unfold A4N at h;simp only[Bool.and_eq_true]at h;obtain⟨⟨⟨⟨u,A⟩,I⟩,V⟩,m⟩:=h;refine⟨Nat.eq_of_beq_eq_true A,λp F K Q=>by simpa using List.all_eq_true.1 (List.all_eq_true.1 I p F) K Q,λk B=>?_,λi o L=>?_⟩
 .have:=List.all_eq_true.1 V k (List.mem_range.2 B)
  unfold atK at this
  cases G:O[t k]? with
  |none=>rw[G]at this;cases this
  |some c=>rw[G]at this;rw[ZV this]
 .have M:=List.all_eq_true.1 m i (List.mem_range.2 (List.getElem?_eq_some_iff.1 L).1)
  rw[L]at M
  cases a:uG[i]? with
  |none=>rw[a]at M;cases M
  |some e=>
   cases G:O[i]? with
   |none=>rw[a,G]at M;cases M
   |some c=>
    rw[a,G]at M;simp only[Bool.and_eq_true]at M;obtain⟨⟨⟨⟨⟨q,l⟩,v⟩,T⟩,H⟩,J⟩:=M
    cases W:o.dst with
    |none=>rw[W]at H;cases H
    |some d=>
     rw[W]at H;simp only[Bool.and_eq_true,decide_eq_true_eq]at H;refine⟨e,c,d,rfl,rfl,q,by simpa using l,λk B=>by simpa using List.all_eq_true.1 v k B,λp F=>?_,W,H.1,λj K Q R=>?_,λr Y=>?_,λk B=>?_,λk B=>?_⟩
     .have:=List.all_eq_true.1 T p F
      simp only[Bool.and_eq_true]at this;refine⟨by simpa using this.1,?_⟩;have A:=this.2
      cases S:vf[p.2]? with
      |none=>rw[S]at A;cases A
      |some K=>rw[S]at A;exact⟨K,rfl,by simpa using A⟩
     .have:=List.all_eq_true.1 H.2 j (List.mem_range.2 (List.getElem?_eq_some_iff.1 Q).1)
      rw[Q]at this;simpa[R]using this
     .subst Y
      simp only[Bool.and_eq_true]at J;exact⟨λE=>by subst E;simp[W]at J,λy N=>(Array.all_eq_true'.1 J.2) y N⟩
     .subst B
      simp only[Bool.and_eq_true,Bool.or_eq_true]at J;obtain⟨⟨⟨Z,X⟩,g⟩,s⟩:=J;refine⟨Nat.le_of_ble_eq_true Z,X.imp Nat.eq_of_beq_eq_true (λh=>by simpa using h),g.imp Nat.eq_of_beq_eq_true (λh=>?_),?_⟩
      .cases S:vf[t k]? with
       |none=>rw[S]at h;cases h
       |some K=>rw[S]at h;exact⟨K,rfl,by simpa using h⟩
      .cases C:Se o.op with
       |none=>rw[C]at s;cases s
       |some x=>rw[C]at s;exact⟨x,rfl,s⟩
     .subst B
      simp only[Bool.and_eq_true,Bool.or_eq_true]at J;obtain⟨⟨⟨Z,X⟩,g⟩,s⟩:=J;refine⟨by rwa [Nat.blt_eq]at Z,by simpa using X,g.imp Nat.eq_of_beq_eq_true (λh=>by simpa using h),s.imp id λs=>?_⟩
      cases C:Sg o.op with
      |none=>rw[C]at s;cases s
      |some z=>
       obtain⟨f,x,y⟩:=z;rw[C]at s;simp only[Bool.and_eq_true]at s;exact⟨f,x,y,rfl,s.1,s.2⟩
def EP(F:List Ow)(id T sz:Nat)(P:List (List D)):List Ow:=F.set id (.row T sz P)
def A3T(P:Program)(J:List (Nat×AV))(F:List Ow)(id T q:Nat)(A:Nat->List (List D))(K:Nat)(E:Option Nat)(C:Nat->Nat)(N:List CK)(l:List (Nat×Nat))(o:Oper):CK->Prop
 |.q r=>(∀j,Quiet P (EP F id T q (A j)) o (Eo ⟨J,EP F id T q (A j)⟩ (N.map CK.hr) l) r)\/(0<K/\C (K-1)∈Bp o/\∃x,o.op.operands=#[x]/\Oh N l E K C x=true/\Quiet P (EP F id T q (A K)) o (λ_=>.own id) r)
 |.o _=>True
 |.t k=>(∃t m b bytes z B d,o.op=.buildSlice t 0 #[]/\Tab P t (.slice T) m b B/\Tab P T d q bytes z/\T≠335/\0<q/\A k=[]/\A (k+1)=[])\/∃f x y p d v,o.op=.call { callee:=.value (.func f),args:=#[x,y],argTypes:=p }/\(∀j,Eo ⟨J,EP F id T q (A j)⟩ (N.map CK.hr) l y=.d v)/\D.le v d/\Con P f [.own 0,.d d] [.row T q (A k)] [0] (λr u=>r=.own 0/\u=[.row T q (A (k+1))])
def CSteps(P:Program)(J:List (Nat×AV))(F:List Ow)(id T sz:Nat)(u:Nat->List (List D))(K:Nat)(A:Option Nat)(m:Nat->Nat)(N:List CK):List Oper->List (List (Nat×Nat))->List CK->Prop
 |o::L,x::S,c::R=>A3T P J F id T sz u K A m N x o c/\CSteps P J F id T sz u K A m N L S R
 |[],[],[]=>True
 |_,_,_=>False
theorem CSteps.at{P:Program}{J:List (Nat×AV)}{hp:List Ow}{id T sz:Nat}{rows:Nat->List (List D)}{K:Nat}{E:Option Nat}{m:Nat->Nat}{N:List CK}:∀{L:List Oper} {S:List (List (Nat×Nat))} {R:List CK},CSteps P J hp id T sz rows K E m N L S R->∀(i:Nat) o x c,L[i]? = some o->S[i]? = some x->R[i]? = some c->A3T P J hp id T sz rows K E m N x o c
 |[],[],[],_,i,o,x,c,h,_,_=>by simp at h
 |[],[],_::_,h,_,_,_,_,_,_,_=>h.elim
 |[],_::_,R,h,_,_,_,_,_,_,_=>by cases R<;>exact h.elim
 |_::_,[],R,h,_,_,_,_,_,_,_=>by cases R<;>exact h.elim
 |_::_,_::_,[],h,_,_,_,_,_,_,_=>h.elim
 |k::L,B::S,r::R,⟨u,A⟩,0,o,x,c,n,C,G=>by
  simp at n C G;subst n;subst C;subst G;exact u
 |k::L,B::S,r::R,⟨u,A⟩,i+1,o,x,c,n,C,G=>CSteps.at A i o x c Zef Zdv Zed
def Kj(K id:Nat):List Oper->List CK->List (Nat×AV)->List (Nat×AV)
 |o::L,.q r::N,S=>match o.dst with |some d=>(d,r)::Kj K id L N S |none=>Kj K id L N S
 |o::L,.o k::N,S=>match o.dst with |some d=>bif Nat.beq k K then(d,.own id)::Kj K id L N S else Kj K id L N S |none=>Kj K id L N S
 |o::L,.t k::N,S=>match o.dst with |some d=>bif Nat.beq (k+1) K then(d,.own id)::Kj K id L N S else Kj K id L N S |none=>Kj K id L N S
 |_,_,S=>S
theorem Ue{K id:Nat}{p:Nat×AV}:∀{L:List Oper} {N:List CK} {S:List (Nat×AV)},p∈Kj K id L N S->p∈S\/∃(i:Nat) (o:Oper) (c:CK),L[i]? = some o/\N[i]? = some c/\o.dst=some p.1/\(c=.q p.2\/(p.2=.own id/\(c=.o K\/∃k,c=.t k/\k+1=K)))
 |[],_,S,h=>.inl (by unfold Kj at h;exact h)
 |o::L,[],S,h=>.inl (by unfold Kj at h;exact h)
 |o::L,c::N,S,h=>by
  have key:p∈Kj K id L N S->p∈S\/∃(i:Nat) (u:Oper) (A:CK),(o::L)[i]? = some u/\(c::N)[i]? = some A/\u.dst=some p.1/\(A=.q p.2\/(p.2=.own id/\(A=.o K\/∃k,A=.t k/\k+1=K))):=λh=>by
   rcases Ue h with h | ⟨i,u,A,h1,h2,h3⟩
   .exact .inl h
   .exact .inr ⟨i+1,u,A,by simpa using h1,by simpa using h2,h3⟩
  cases c with
  |q r=>
   unfold Kj at h;split at h
   .rename_i d W
    rcases List.mem_cons.1 h with rfl | h
    .exact .inr ⟨0,o,_,rfl,rfl,W,.inl rfl⟩
    .exact key h
   .exact key h
  |o k=>
   unfold Kj at h;split at h
   .rename_i d W
    cases E:Nat.beq k K with
    |true=>
     rw[E]at h;rcases List.mem_cons.1 h with rfl | h
     .exact .inr ⟨0,o,_,rfl,rfl,W,.inr ⟨rfl,.inl (by rw[Nat.eq_of_beq_eq_true E])⟩⟩
     .exact key h
    |false=>rw[E]at h;exact key h
   .exact key h
  |t k=>
   unfold Kj at h;split at h
   .rename_i d W
    cases E:Nat.beq (k+1) K with
    |true=>
     rw[E]at h;rcases List.mem_cons.1 h with rfl | h
     .exact .inr ⟨0,o,_,rfl,rfl,W,.inr ⟨rfl,.inr ⟨k,rfl,Nat.eq_of_beq_eq_true E⟩⟩⟩
     .exact key h
    |false=>rw[E]at h;exact key h
   .exact key h
structure CInv(s0:An)(n:Nat)(hp:List Ow)(id T sz:Nat)(rows:Nat->List (List D))(K:Nat)(tb:Option Nat)(tp:Nat->Nat)(L:List Oper)(ks:List CK)(frB:List (Nat×AV))(listed:Array Bool)(a:Act)(j:Nat)(s:GS)(ρ:Nat->Value):Prop where
 st:StI s0 n ⟨[],EP hp id T sz (rows j)⟩ a s ρ
 jK:j<=K
 hj:∀k,k<K->(listed.getD (tp k) false=true↔k<j)
 closed:∀i o,L[i]? = some o->listed.getD i false=true->∀e∈Bp o,listed.getD e false=true
 hq:∀i o d r,L[i]? = some o->o.dst=some d->ks[i]? = some (.q r)->listed.getD i false=true->AVr hp.length ρ s r (a.tmps.getD d undef)
 hb:∀p∈frB,AVr hp.length ρ s p.2 (a.tmps.getD p.1 undef)
 h0:∀t,tb=some t->j=0->a.tmps.getD t undef=ρ id
 ho:∀i o d c,L[i]? = some o->o.dst=some d->ks[i]? = some c->listed.getD i false=true->(c=.o j\/∃k,c=.t k/\j=k+1)->a.tmps.getD d undef=ρ id
theorem HT{v:Value}(h:n<vi.tmps.size):(vi.put (some n) v).tmps.getD n undef=v:=by
 simp[Act.put,h]
theorem Eg{v:Value}(h:b≠n):(vi.put (some n) v).tmps.getD b undef=vi.tmps.getD b undef:=by
 rw[Array.getD_eq_getD_getElem?,Array.getD_eq_getD_getElem?];simp[Act.put,Array.getElem?_setIfInBounds_ne (λe=>h e.symm:n≠b)]
theorem StI.bare{s0:An}{f:AS}{s:GS}(h:StI s0 n f vi s vg):StI s0 n ⟨[],f.hp⟩ vi s vg:=⟨h.le,h.ok,(λt H M=>by cases M),h.sz,h.df,h.hp,h.sep,h.own⟩
theorem TR(F:List Ow)(id T sz:Nat)(r:List (List D)):(EP F id T sz r).length=F.length:=by simp[EP]
theorem A2L{id T sz:Nat}{r:List (List D)}(h:id<H.length):(EP H id T sz r)[id]? = some (.row T sz r):=by simp[EP,h]
theorem Mk:∀{F:List (Nat×AV)} {p:Nat×AV},p∈F->(∀q∈F,q.1=p.1->q=p)->BR F p.1=some p.2
 |(a,v)::r,p,h,M=>by
  unfold BR
  cases E:Nat.beq a p.1 with
  |true=>
   have:=M (a,v) List.mem_cons_self (Nat.eq_of_beq_eq_true E);rw[<-this];rfl
  |false=>
   rcases List.mem_cons.1 h with rfl | h
   .rw [Nat.beq_refl]at E;cases E
   .exact Mk h λq z=>M q (List.mem_cons_of_mem _ z)
def GP(L:List Oper)(N:List CK)(J:List (Nat×AV))(listed:Array Bool):List (Nat×AV):=
 ((List.range L.length).flatMap λi=>match L[i]?,N[i]? with
  |some o,some (CK.q r)=>match o.dst with
   |some d=>if listed.getD i false=true then[(d,r)]else[]
   |none=>[]
  |_,_=>[])++J
theorem Dv{L:List Oper}{N:List CK}{listed:Array Bool}{p:Nat×AV}:p∈GP L N vd listed↔(∃i o,L[i]? = some o/\N[i]? = some (.q p.2)/\o.dst=some p.1/\listed.getD i false=true)\/p∈vd:=by
 unfold GP;rw[List.mem_append,List.mem_flatMap];refine or_congr ⟨λ⟨i,K,h⟩=>?_,λ⟨i,o,u,A,I,V⟩=>⟨i,List.mem_range.2 (List.getElem?_eq_some_iff.1 u).1,?_⟩⟩ Iff.rfl
 .cases n:L[i]? with
  |none=>rw[n]at h;simp at h
  |some o=>
   cases G:N[i]? with
   |none=>rw[n,G]at h;simp at h
   |some c=>
    rw[n,G]at h
    cases c with
    |q r=>
     cases W:o.dst with
     |none=>simp[W]at h
     |some d=>
      simp only[W]at h;split at h
      .rename_i B
       have:=List.mem_singleton.1 h;subst this;exact⟨i,o,n,G,W,B⟩
      .cases h
    |o k=>simp at h
    |t k=>simp at h
 .rw [u,A]
  simp only[I];rw[if_pos V];exact List.mem_singleton.2 rfl
def FrIn(S:List (Nat×AV)):List (Nat×AV)->Prop
 |[]=>True
 |p::r=>BR S p.1=some p.2/\FrIn S r
theorem FrIn.mem{S:List (Nat×AV)}:∀{F:List (Nat×AV)},FrIn S F->∀p∈F,BR S p.1=some p.2
 |[],_,p,h=>by cases h
 |q::r,⟨u,A⟩,p,h=>by
  rcases List.mem_cons.1 h with rfl | h
  .exact u
  .exact FrIn.mem A p h
theorem Ej{s0:An}(id T sz:Nat)(xc:Nat->List (List D))(K:Nat)(tb:Option Nat)(tp:Nat->Nat)(ks:List CK)(es:List (List (Nat×Nat)))(xj F:List (Nat×AV))(hm:P.follows .mixedOrders=true)(xq:H[id]? = some (.row T sz (xc 0)))(yi:FrIn vd xj)(yC:∀t,tb=some t->BR vd t=some (.own id))
  (steps:CSteps P xj H id T sz xc K tb tp ks vf es ks) (xd:A4N vf es ks xj n tb K tp=true) (xr:((xj.all λp=>p.2.avoid [id])&&ks.all λc=>c.hr.val.avoid [id])=true) (xn:AvoidR [id] [id] 0 H) (hF:FrIn (Kj K id vf ks xj) F) (M:List Ow) (hM:EP H id T sz (xc K)=M) (fin:vl .normal ⟨F,M⟩):AWp P s0 n (.region b vf.toArray true) vl ⟨vd,H⟩:=by
 refine⟨λa w ⟨s,V,hw,xb⟩=>?_⟩;subst hw;subst hM;have ym:=yi.mem;obtain⟨yE,xz,yw,xR⟩:=A37 xd;simp only[Bool.and_eq_true]at xr;have xE:id<H.length:=BV xq;have yf:∀r,(EP H id T sz r)[id]? = some (.row T sz r):=λr=>A2L xE;have xY:∀r,(EP H id T sz r).length=H.length:=TR H id T sz;have xQ:∀r r',(EP H id T sz r).set id (.row T sz r')=EP H id T sz r':=λr r'=>by simp[EP]
 have xx:∀j,(Array.replicate vf.toArray.size false).getD j false=false:=λj=>by
  rcases Nat.lt_or_ge j vf.length with h | h
  .simp [h]
  .simp [h]
 have yn:EP H id T sz (xc 0)=H:=by
  unfold EP;apply List.ext_getElem?;intro i;rw[List.getElem?_set];split
  .rename_i h;subst h;exact xq.symm
  .rfl
 have yq:StI s0 n ⟨vd,H⟩ a s.dr V:=xb.put (Iq s) (dst:=none) (λd X=>by cases X) (v:=undef) (r:=.d Cw) trivial;refine wp_region_any hm (LT (λxe a' S=>∃j l xi,l.w=S/\CInv s0 n H id T sz xc K tb tp vf ks xj xe a' j l xi) ?_ ?_ _ _ a s.w.drew ZbK ?_ ⟨0,s.dr,V,rfl,by rw[yn];exact yq.bare,Nat.zero_le _,(λk _=>⟨λh=>absurd (h.symm.trans (xx _)) ZbA,λh=>absurd h (Nat.not_lt_zero k)⟩),(λi o _ h=>absurd (h.symm.trans (xx _)) ZbA),(λi o d r _ _ _ h=>absurd (h.symm.trans (xx _)) ZbA),(λp xa=>yq.fr _ _ (ym p xa)),(λt O _=>(yq.fr _ _ (yC t O)).2),λi o d c _ _ _ h=>absurd (h.symm.trans (xx _)) ZbA⟩)
 .rintro xe a' _ i xh ⟨j,s1,xD,rfl,xg⟩ L
  have xh:xe.size=vf.length:=by simpa using xh
  obtain⟨_,o,ho,_⟩:=mem_ready.1 L;have ho:vf[i]? = some o:=by simpa using ho
  obtain⟨xu,xs⟩:=(CV xh ho).1 L;obtain⟨e,c,d,Z,G,ck⟩:=xR i o ho;have yd:i<xe.size:=by rw[xh];exact(List.getElem?_eq_some_iff.1 ho).1
  have xB:=steps.at i o e c ho Z G;have xU:vf.toArray[i]? = some o:=by simpa using ho
  have xV:d<a'.tmps.size:=by rw[xg.st.sz];exact ck.dn
  have xC:∀k,(xe.setIfInBounds i true).getD k false=true↔k=i\/xe.getD k false=true:=λk=>by
   by_cases C:k=i
   .subst C;simp[yd]
   .exact ZaN
  have yt:∀i' o',vf[i']? = some o'->(xe.setIfInBounds i true).getD i' false=true->∀e∈Bp o',(xe.setIfInBounds i true).getD e false=true:=λi' o' xl N e' xH=>by
   rw[xC]at N ⊢;rcases N with rfl | N
   .obtain rfl:o'=o:=Option.some.inj (xl.symm.trans ho)
    exact .inr (xs e' xH)
   .exact .inr (xg.closed i' o' xl N e' xH)
  have xk:∀i' o' d',vf[i']? = some o'->o'.dst=some d'->xe.getD i' false=true->d'≠d:=λi' o' d' xl xm N e'=>by
   subst e';have:=ck.du i' o' xl xm;subst this;rw[xu]at N;cases N
  have ys:∀p∈xj,p.1≠d:=λp xa e'=>xz p xa o (List.mem_of_getElem? ho) (by rw[e'];exact ck.dst)
  have yr:∀(R:Act->World->Prop),o.wp P a' s1.w (λya xw=>R ya xw) (FG s0 n vl)->wpOp P vf.toArray (FG s0 n vl) i (λya xw=>R ya xw) a' s1.w:=λR h=>by
   unfold wpOp;rw[xU];show if Region.wanted o (yielded vf.toArray a'.tmps)=true then _ else _
   exact ZgM
  have yb:∀y,MS vf e y=true->AVr H.length xD s1 (Eo ⟨xj,EP H id T sz (xc j)⟩ (ks.map CK.hr) e y) (a'.eval y):=λy Q=>by
   cases y with
   |tmp t=>
    show AVr _ xD s1 (match e.find? (λp=>p.1==t)with
     |some p=>match (ks.map CK.hr)[p.2]? with
      |some h=>h.val
      |none=>.d Cw
     |none=>(BR xj t).getD (.d Cw)) (a'.tmps.getD t undef)
    cases yu:e.find? (λp=>p.1==t)with
    |some p=>
     have xa:p∈e:=List.mem_of_find?_eq_some yu;have xT:p.1=t:=by simpa using List.find?_some yu
     simp only;rw[List.getElem?_map]
     cases yg:ks[p.2]? with
     |none=>trivial
     |some c'=>
      cases c' with
      |q r=>
       obtain⟨xZ,o',xl,xm⟩:=ck.env p xa;have:=xg.hq p.2 o' p.1 r xl xm yg (xs _ xZ);rwa [xT]at this
      |o k=>trivial
      |t k=>trivial
    |none=>
     simp only
     cases N:BR xj t with
     |none=>trivial
     |some av=>exact xg.hb (t,av) (Ed N)
   |const v=>exact ZhI
   |global u=>trivial
   |func f=>exact ZhJ
  have yz:∀k x,j=k->Oh ks e tb k tp x=true->a'.eval x=xD id:=λk x yo E=>by
   subst yo
   cases x with
   |tmp t=>
    show a'.tmps.getD t undef=xD id;simp only[Oh,Bool.or_eq_true,Bool.and_eq_true]at E;rcases E with⟨A,B⟩ | h
    .exact xg.h0 t Zck (Nat.eq_of_beq_eq_true A)
    .obtain ⟨p,xa,A⟩:=List.any_eq_true.1 h
     simp only[Bool.and_eq_true,Bool.or_eq_true]at A;obtain⟨A,B⟩:=A;have xT:p.1=t:=by simpa using A
     obtain⟨xZ,o',xl,xm⟩:=ck.env p xa;rcases B with B | ⟨B,I⟩
     .unfold atK at B
      cases yg:ks[p.2]? with
      |none=>rw[yg]at B;cases B
      |some c'=>
       rw[yg]at B;have:=xg.ho p.2 o' p.1 c' xl xm yg (xs _ xZ) (.inl (ZW B));rwa [xT]at this
     .have I:p.2=tp (j-1):=by simpa using I
      have B:0<j:=by rwa [Nat.blt_eq]at B
      have C:j-1<K:=by have:=xg.jK;omega
      have:=xg.ho p.2 o' p.1 _ xl xm (by rw[I];exact yw _ C) (xs _ xZ) (.inr ⟨j-1,rfl,by omega⟩);rwa [xT]at this
   |const v=>cases E
   |global u=>cases E
   |func f=>cases E
  have yH:∀k,(k=0\/tp (k-1)∈Bp o)->k<=K->k<=j:=λk h C=>by
   rcases h with rfl | h
   .exact Nat.zero_le _
   .rcases Nat.eq_zero_or_pos k with rfl | U
    .exact Nat.zero_le _
    .have:=(xg.hj (k-1) Zbx).1 (xs _ h)
     omega
  have keep:∀(v:Value) (s2:GS) (c0:CK),c=c0->GS.Le s1 s2->(∀r,c0=.q r->AVr H.length xD s2 r v)->(∀k,c0=.o k->k=j/\v=xD id)->(∀k,c0≠.t k)->CInv s0 n H id T sz xc K tb tp vf ks xj (xe.setIfInBounds i true) (a'.put o.dst v) j s2 xD:=λv s2 c0 xP xo xA yF yB=>by
   subst xP;have A:=xg.st.put xo (dst:=o.dst) (λd' xm=>by rw[ck.dst]at xm;cases xm;exact ck.dn) (v:=v) (r:=.d Cw) trivial;rw[ck.dst]at A ⊢;refine⟨A.bare,xg.jK,λk C=>?_,yt,λi' o' d' r xl xm xI N=>?_,λp xa=>?_,λyL yI h=>?_,λi' o' d' c' xl xm xI N xO=>?_⟩
   .rw [xC]
    refine⟨λh=>h.elim (λe'=>?_) (xg.hj k C).1,λh=>.inr ((xg.hj k C).2 h)⟩;have:=yw k C;rw[e',G]at this;exact absurd (Option.some.inj this) (yB k)
   .rw [xC]at N
    rcases N with rfl | N
    .obtain rfl:o'=o:=Option.some.inj (xl.symm.trans ho)
     obtain rfl:d'=d:=Option.some.inj (xm.symm.trans ck.dst);rw[HT xV];exact xA r (Option.some.inj (G.symm.trans xI))
    .rw [Eg (xk i' o' d' xl xm N)]
     exact(xg.hq i' o' d' r xl xm xI N).chg xo.chg
   .rw [Eg (ys p xa)]
    exact(xg.hb p xa).chg xo.chg
   .by_cases yJ:yL=d
    .subst yJ
     rw[HT xV]
     cases c with
     |q r=>exact absurd yI (ck.kq r rfl).1
     |o k=>exact(yF k rfl).2
     |t k=>exact absurd rfl (yB k)
    .rw [Eg yJ]
     exact xg.h0 yL yI h
   .rw [xC]at N
    rcases N with rfl | N
    .obtain rfl:o'=o:=Option.some.inj (xl.symm.trans ho)
     obtain rfl:d'=d:=Option.some.inj (xm.symm.trans ck.dst);obtain rfl:c'=c:=Option.some.inj (xI.symm.trans G);rw[HT xV];rcases xO with rfl | ⟨k,rfl,_⟩
     .exact (yF j rfl).2
     .exact absurd rfl (yB k)
    .rw [Eg (xk i' o' d' xl xm N)]
     exact xg.ho i' o' d' c' xl xm xI N xO
  cases c with
  |q r=>
   have hq:RegG.OpStep P o a'.eval s1 (λv s2=>GS.Le s1 s2/\AVr H.length xD s2 r v):=by
    rcases xB with xB | ⟨hK0,hmem,x,hops,hsr,hqt⟩
    .have hq:=(xB j).run 0 s1 xD a'.eval xg.st.ok (Nat.zero_le _) xg.st.hp (λy Q=>by rw [xY]; exact yb y ((ck.kq r rfl).2 y Q))
     rw[xY]at hq;exact hq
    .have A:=(xg.hj (K-1) Zbx).1 (xs _ hmem)
     have B:=xg.jK;obtain rfl:j=K:=by omega
     have hv:=yz j x rfl hsr
     have hq:=hqt.run 0 s1 xD a'.eval xg.st.ok (Nat.zero_le _) xg.st.hp (λy Q=>by
      rw[hops]at Q;obtain rfl:y=x:=by simpa using Q
      rw[xY];exact⟨xE,hv⟩)
     rw[xY]at hq;exact hq
   exact yr _ (RegG.opStep_wp ck.ns (λ_ _=>rfl) hq λv s2 ⟨A,B⟩=>⟨j,s2,xD,rfl,keep v s2 _ rfl A (λr' xF=>by cases xF;exact B) (λk C=>by cases C) λk C=>by cases C⟩)
  |o k=>
   obtain⟨A,B,I,x,E,xJ⟩:=ck.ko k rfl
   have yo:j=k:=by
    have W:=yH k B A;have h5:=xg.jK;rcases I with rfl | ⟨o',xl,h6⟩
    .omega
    .by_cases yO:k<j
     .have:=xg.closed _ o' xl ((xg.hj k Zbx).2 yO) i h6
      rw[xu]at this;cases this
     .omega
   have hv:=yz k x yo xJ
   have xp:(execOp a'.eval o).run P s1.w=.ok (.value (a'.eval x)) s1.w:=by
    cases xf:o.op<;>rw[xf]at E<;>simp[Se]at E
    .subst E;simp[execOp,xf]
    .subst E;simp[execOp,xf]
   refine yr _ ?_;unfold Oper.wp;rw[xp];exact⟨j,s1,xD,rfl,keep _ s1 _ rfl (GS.Le.refl _) (λr Y=>by cases Y) (λk' xt=>by cases xt;exact⟨yo.symm,hv⟩) λk' xt=>by cases xt⟩
  |t k=>
   obtain⟨yD,yy,xL,E⟩:=ck.kt k rfl
   have yo:j=k:=by
    have W:=yH k xL Zbx
    have h5:¬k<j:=λh=>by
     have:=(xg.hj k yD).2 h;rw[<-yy,xu]at this;cases this
    omega
   subst yo;let m:=(EP H id T sz (xc j)).length;let yl:Nat->Value:=λq=>xD (Bu [id] m q);have xK:=xg.st.hp id _ (yf (xc j))
   have yP:RegG.OpStep P o a'.eval s1 (λv l=>∃(xi:Nat->Value) (r:AV) (xa:List Ow),(r=.own 0/\xa=[.row T sz (xc (j+1))])/\AVr xa.length xi l r v/\Aft s1 yl [.row T sz (xc j)] [0] l xi xa):=by
    rcases xB with⟨t,m',u,bytes,z,z',dd,xf,O,hT,xS,U,yG,ye⟩ | ⟨f',x',y',tys,d1,d2,xf,hyd,hled,hcon⟩
    .obtain ⟨l,xi,hw,hv,yM⟩:=A4k (sz:=sz) xg.st.ok yl xS U
     have xp:(execOp a'.eval o).run P s1.w=.ok (.value (.slice (some ⟨s1.w.heap.size,0,none⟩) 0 0)) (s1.w.alloc (.cells #[] T)):=by
      have hn:∀arr,(newRow T arr).run P s1.w=.ok ⟨s1.w.heap.size,0,none⟩ (s1.w.alloc (.cells arr T)):=λ_=>rfl;simp[execOp,xf,Instr.buildSlice,run_underlying O.und,hT.run_size,Instr.fill,hn];exact ZgV
     unfold RegG.OpStep;rw[xp];exact⟨l,hw,xi,.own 0,_,⟨rfl,by rw[ye]⟩,⟨by simp,hv.symm⟩,by rw[yG];exact yM⟩
    .rcases E with E | ⟨f,x,y,hcall,E,Q⟩
     .rw [xf]at E
      cases E
     rw[xf]at hcall
     obtain⟨rfl,rfl,rfl⟩:f'=f/\x'=x/\y'=y:=by
      have:=Option.some.inj hcall;simp only[Prod.mk.injEq]at this;exact this
     have yk:=yz j x' rfl E;have yK:=yb y' Q;rw[hyd j]at yK
     have yx:=hcon.2 s1 yl [xD id,a'.eval y'] xg.st.ok (λq o' hq=>by
      cases q with
      |zero=>
       cases hq;unfold OwR at xK ⊢;exact xK
      |succ q=>cases hq) (λp q o1 o2 yv yp xA=>by
      have:=BV yp;have:=BV xA;simp only[List.length_singleton]at *;omega) rfl (λq av hq=>by
      match q,hq with
      |0,hq=>cases hq;exact⟨Nat.zero_lt_one,rfl⟩
      |1,hq=>cases hq;exact hled s1 _ yK
      |q+2,hq=>simp at hq)
     have xp:(execOp a'.eval o).run P s1.w=.ok (.enter f' #[xD id,a'.eval y']) s1.w:=by
      have J:a'.eval (.func f')=.func (.func f') #[] #[]:=rfl;simp[execOp,xf,resolve,J,yk,Deferred.ofValue,invoke,hcon.1]
     unfold RegG.OpStep;rw[xp];exact yx.mono λe S ⟨v,Z,l,xi,r,xa,h5,h6,h7,h8⟩=>⟨v,Z,l,h6,xi,r,xa,h5,h7,h8⟩
   refine yr _ (RegG.opStep_wp ck.ns (λ_ _=>rfl) yP ?_)
   .rintro v l ⟨xi,r,xa,⟨rfl,rfl⟩,h6,h7⟩
    have yA:StI s0 n ⟨GP vf ks xj xe,EP H id T sz (xc j)⟩ a' s1 xD:=⟨xg.st.le,xg.st.ok,λt av O=>by
     rw[show(⟨GP vf ks xj xe,EP H id T sz (xc j)⟩:AS).hp.length=H.length from xY _];rcases Dv.1 (Ed O)with⟨i',o',g1,g2,g3,g4⟩ | g
     .exact xg.hq i' o' t av g1 g3 g2 g4
     .exact xg.hb _ g,xg.st.sz,xg.st.df,xg.st.hp,xg.st.sep,xg.st.own⟩
    obtain⟨xM,xv,xG⟩:=StI.con (sel:=[id]) (lost:=[0]) (hpS:=[.row T sz (xc j)]) (hp':=[.row T sz (xc (j+1))]) (H1:=(EP H id T sz (xc j)).set id (.row T sz (xc (j+1)))) ⟨λp xa=>by
     rcases Dv.1 xa with⟨i',o',g1,g2,g3,g4⟩ | g
     .exact List.all_eq_true.1 xr.2 _ (List.mem_of_getElem? g2)
     .exact List.all_eq_true.1 xr.1 _ g,λi' o' xW xl=>by
     refine AvoidR.get xn i' o' (by simpa using xW) ?_;have xl:(EP H id T sz (xc j))[i']? = some o':=xl;rwa [EP,List.getElem?_set_ne (λe=>xW (by rw[e];exact List.mem_singleton.2 rfl))]at xl⟩ (λk C=>by rw[List.mem_singleton.1 C];exact Nat.zero_lt_one) yA ZbK ⟨yf (xc j),trivial,trivial⟩ h7 rfl
    simp only[List.length_singleton,List.drop_succ_cons,List.drop_nil,List.drop_zero,List.map_nil,List.append_nil,xQ]at xv xG;have hv:v=xM id:=(xG _ v h6).2
    have yc:∀(p:Nat×AV),p∈GP vf ks xj xe->AVr H.length xM l p.2 (a'.tmps.getD p.1 undef):=λp xa=>by
     have:=xv.fr p.1 p.2 (Mk xa λq hq J=>by
      rcases Dv.1 xa with⟨i1,o1,g1,g2,g3,g4⟩ | g<;>rcases Dv.1 hq with⟨i2,o2,k1,k2,k3,k4⟩ | k0
      .rw [J]at k3
       obtain⟨_,_,d3,_,_,yj⟩:=xR i1 o1 g1;obtain rfl:d3=p.1:=Option.some.inj (yj.dst.symm.trans g3);obtain rfl:=yj.du i2 o2 k1 k3;rw[g2]at k2;have:=Option.some.inj k2;simp only[CK.q.injEq]at this;exact Prod.ext J this.symm
      .exact absurd (g3.trans (congrArg some J.symm)) (xz q k0 o1 (List.mem_of_getElem? g1))
      .exact absurd (k3.trans (congrArg some J)) (xz p g o2 (List.mem_of_getElem? k1))
      .have A:=ym p g
       have B:=ym q k0;rw[J,A]at B;exact Prod.ext J (Option.some.inj B).symm)
     rwa [show(⟨GP vf ks xj xe,EP H id T sz (xc (j+1))⟩:AS).hp.length=H.length from xY _]at this
    refine⟨j+1,l,xM,rfl,?_⟩;have A:=xv.put (GS.Le.refl l) (dst:=o.dst) (λd' xm=>by rw[ck.dst]at xm;cases xm;exact ck.dn) (v:=v) (r:=.d Cw) trivial;rw[ck.dst]at A ⊢;refine⟨A.bare,yD,λk C=>?_,yt,λi' o' d' r xl xm xI N=>?_,λp xa=>?_,λ_ _ h=>absurd h (Nat.succ_ne_zero _),λi' o' d' c' xl xm xI N xO=>?_⟩
    .rw [xC,xg.hj k C]
     refine⟨λh=>?_,λh=>?_⟩
     .rcases h with h | h
      .have A:=yw k C
       rw[h,G]at A;have B:=Option.some.inj A;simp only[CK.t.injEq]at B;omega
      .omega
     .rcases Nat.lt_succ_iff_lt_or_eq.1 h with h | h
      .exact .inr h
      .exact .inl (by rw[h];exact yy.symm)
    .rw [xC]at N
     rcases N with rfl | N
     .rw [G]at xI
      cases xI
     .rw [Eg (xk i' o' d' xl xm N)]
      exact yc (d',r) (Dv.2 (.inl ⟨i',o',xl,xI,xm,N⟩))
    .rw [Eg (ys p xa)]
     exact yc p (Dv.2 (.inr xa))
    .rw [xC]at N
     rcases N with rfl | N
     .obtain rfl:o'=o:=Option.some.inj (xl.symm.trans ho)
      obtain rfl:d'=d:=Option.some.inj (xm.symm.trans ck.dst);rw[HT xV];exact hv
     .obtain ⟨e3,c3,d3,xX,yh,yj⟩:=xR i' o' xl
      obtain rfl:c3=c':=Option.some.inj (yh.symm.trans xI)
      have xN:xe.getD (tp j) false≠true:=λh=>by
       rw[<-yy,xu]at h;cases h
      rcases xO with rfl | ⟨k',rfl,xt⟩
      .obtain ⟨_,q2,_,_⟩:=yj.ko _ rfl
       rcases q2 with q2 | q2
       .cases q2
       .exact absurd (xg.closed i' o' xl N _ q2) xN
      .obtain ⟨_,q2,_⟩:=yj.kt _ rfl
       obtain rfl:k'=j:=by omega
       rw[q2]at N;exact absurd N xN
 .rintro xe a' _ xh ⟨j,s1,xD,rfl,xg⟩ U
  have xh:xe.size=vf.length:=by simpa using xh
  have xy:∀i,i<vf.length->xe.getD i false=true:=by
   intro i
   induction i using Nat.strongRecOn with
   |_ i ih=>
    intro L;have ho:vf[i]? = some vf[i]:=List.getElem?_eq_getElem L;obtain⟨e,c,d,Z,G,ck⟩:=xR i _ ho
    cases hg:xe.getD i false with
    |true=>rfl
    |false=>
     have:i∈Region.ready .any vf.toArray xe:=(CV xh ho).2 ⟨hg,λk C=>ih k (ck.lt k C) (by have:=ck.lt k C;omega)⟩;rw[U]at this;cases this
  have yN:j=K:=by
   have A:=xg.jK;rcases Nat.eq_zero_or_pos K with B | B
   .omega
   .have I:=yw (K-1) Zbx
    have W:=(xg.hj (K-1) Zbx).1 (xy _ (by rw[yE];exact(List.getElem?_eq_some_iff.1 I).1));omega
  subst yN;refine⟨_,fin,s1,xD,rfl,xg.st.le,xg.st.ok,λt av O=>?_,xg.st.sz,xg.st.df,xg.st.hp,xg.st.sep,xg.st.own⟩;rw[show(⟨F,EP H id T sz (xc j)⟩:AS).hp.length=H.length from xY _];rcases Ue (Ed (hF.mem _ (Ed O)))with h | ⟨i,o,c,A,B,I,W⟩
  .exact xg.hb _ h
  .have N:=xy i (List.getElem?_eq_some_iff.1 A).1
   rcases W with rfl | ⟨W,h5⟩
   .exact xg.hq i o t av A I B N
   .replace W:av=.own id:=W
    subst W;refine⟨xE,xg.ho i o t c A I B N ?_⟩;rcases h5 with h5 | ⟨k,h5,h6⟩
    .exact .inl h5
    .exact .inr ⟨k,h5,h6.symm⟩
 .rw [Array.count_replicate]
  simp
section
variable {P:Program} {frB:List (Nat×AV)} {hp:List Ow} {id T sz:Nat} {rows:Nat->List (List D)} {K:Nat} {tb:Option Nat} {tp:Nat->Nat} {ks:List CK} {es:List (Nat×Nat)} {o:Oper} {L:List Oper} {S:List (List (Nat×Nat))} {R:List CK}
theorem CSteps.q{r:AV}(h:∀j,Quiet P (EP hp id T sz (rows j)) o (Eo ⟨frB,EP hp id T sz (rows j)⟩ (ks.map CK.hr) es) r)(b:CSteps P frB hp id T sz rows K tb tp ks L S R):CSteps P frB hp id T sz rows K tb tp ks (o::L) (es::S) (.q r::R):=⟨.inl h,b⟩
theorem CSteps.s{k:Nat}(b:CSteps P frB hp id T sz rows K tb tp ks L S R):CSteps P frB hp id T sz rows K tb tp ks (o::L) (es::S) (.o k::R):=⟨trivial,b⟩
theorem CSteps.t{k:Nat}{dd:Option Tmp}{ty:TypeId}{ps:String}{af:Array Edge}{gd:Option (Nat×Bool)}{f:FuncId}(G:Con P f [.own 0,.d r] [.row T sz (rows k)] [0] (λu A=>u=.own 0/\A=[.row T sz (rows (k+1))]))(N:∀j,Eo ⟨frB,EP hp id T sz (rows j)⟩ (ks.map CK.hr) es y=.d r)(b:CSteps P frB hp id T sz rows K tb tp ks L S R):CSteps P frB hp id T sz rows K tb tp ks (⟨dd,.call { callee:=.value (.func f),args:=#[x,y],argTypes:=vs },ty,ps,af,gd⟩::L) (es::S) (.t k::R):=⟨.inr ⟨f,x,y,vs,r,r,rfl,N,D.le.refl _,G⟩,b⟩
theorem CSteps.m{k:Nat}{ty:TypeId}{t m b bytes:Nat}{d:TypeDesc}(M:Tab P t (.slice T) m b v)(C:Tab P T d sz bytes z)(E:Nat.beq T 335=false)(g:Nat.blt 0 sz=true)(u:rows k=[])(A:rows (k+1)=[])(B:CSteps P frB hp id T sz rows K tb tp ks L S R):CSteps P frB hp id T sz rows K tb tp ks (⟨vA,.buildSlice t 0 #[],ty,vF,vG,vS⟩::L) (es::S) (.t k::R):=⟨.inl ⟨t,m,b,bytes,z,v,d,rfl,M,C,Nat.ne_of_beq_eq_false E,by simpa[Nat.blt_eq]using g,u,A⟩,B⟩
theorem CSteps.nil:CSteps P frB hp id T sz rows K tb tp ks [] [] []:=trivial
theorem DV{r:AV}(b:CSteps P frB hp id T sz rows K tb tp ks L S R)(h:∀j,Quiet P (EP hp id T sz (rows j)) o (Eo ⟨frB,EP hp id T sz (rows j)⟩ (ks.map CK.hr) es) r:=by intro _;first | exact Bb (ah rfl) | exact Dh (ah rfl) | exact Bo (ah rfl) (Aa rfl) rfl (Aa rfl) rfl rfl | exact Bg | exact AM | exact Hh rfl (ah rfl) (Aa rfl) (Aa rfl) rfl Zci Zci | exact JB (ah rfl) (ah rfl) (Aa rfl) (Aa rfl) Zci | exact A1E (ah rfl) (Aa rfl) rfl (Aa rfl) rfl rfl | exact PO (ah rfl) (Aa rfl) rfl rfl | exact FU (ah rfl) (Aa rfl) rfl rfl | exact SR (ah rfl) (Aa rfl) rfl (WN Zci) | exact SR (ah rfl) (Aa rfl) rfl (WM Zci)):CSteps P frB hp id T sz rows K tb tp ks (o::L) (es::S) (.q r::R):=CSteps.q h b
theorem LS{k:Nat}{q:TypeId}(G:Con P vb [.own 0,.d r] [.row T sz (rows k)] [0] (λu A=>u=.own 0/\A=[.row T sz (rows (k+1))]))(b:CSteps P frB hp id T sz rows K tb tp ks L S R)(N:∀j,Eo ⟨frB,EP hp id T sz (rows j)⟩ (ks.map CK.hr) es y=.d r:=by intro _;rfl):CSteps P frB hp id T sz rows K tb tp ks (⟨vA,.call { callee:=.value (.func vb),args:=#[x,y],argTypes:=vs },q,vF,vG,vS⟩::L) (es::S) (.t k::R):=CSteps.t G N b
end
theorem ZY{s0:An}{c:Code}(T q:Nat)(C:Nat.beq T 335=false)(g:Nat.blt 0 q=true)(u:Fk H (.row T q [])=some vw)(k:AWp P s0 n c vl ⟨vd,vw⟩):AWp P s0 n c vl ⟨vd,H⟩:=by
 rw[Ex u]at k;refine⟨λa w ⟨s,S,V,A⟩=>?_⟩
 have := A.new (GS.Le.refl s) (dst := none) (v := undef) (u := .slice none 0 0) (r := .d Cw) (ow := .row T q []) (fun d W => by cases W) trivial
  ⟨[],by simp only[if_pos];exact⟨by simp,.inl ⟨rfl,rfl⟩⟩,Nat.ne_of_beq_eq_false C,by simpa[Nat.blt_eq]using g,λb E=>by simp[Dc]at E,λk B=>absurd B (Nat.not_lt_zero k)⟩ (λb E=>by cases E)
 exact Zhy
def wipe(P:List Nat):List (Nat×AV)->List (Nat×AV)
 |[]=>[]
 |p::r=>(bif p.2.avoid P then p else(p.1,.d Cw))::wipe P r
theorem LV{P:List Nat}{t:Nat}{H:AV}:∀{S:List (Nat×AV)},BR (wipe P S) t=some H->H=.d Cw\/BR S t=some H
 |[],h=>by cases h
 |(u,x)::r,h=>by
  unfold wipe at h;rw[Cx]
  cases E:x.avoid P with
  |true=>
   simp only[E,cond_true]at h;rw[Cx]at h;split
   .rename_i e;rw[if_pos e]at h;exact .inr h
   .rename_i e;rw[if_neg e]at h;exact LV h
  |false=>
   simp only[E,cond_false]at h;rw[Cx]at h;split
   .rename_i e;rw[if_pos e]at h;exact .inl (Option.some.inj h).symm
   .rename_i e;rw[if_neg e]at h;exact LV h
theorem NU{P:List Nat}:∀{S:List (Nat×AV)},(wipe P S).all (λp=>p.2.avoid P)=true
 |[]=>rfl
 |p::r=>by
  unfold wipe;rw[List.all_cons,NU,Bool.and_true]
  cases E:p.2.avoid P with
  |true=>simp only[cond_true];exact E
  |false=>rfl
theorem StI.wipe{s0:An}{s:GS}(P:List Nat)(h:StI s0 n ⟨vd,H⟩ vi s vg):StI s0 n ⟨Go.Proofs.YtcikkglcoeedlaaGreat.wipe P vd,H⟩ vi s vg:=⟨h.le,h.ok,λt u M=>(LV M).elim (λe=>e▸trivial) (h.fr t u),h.sz,h.df,h.hp,h.sep,h.own⟩
section
variable {P:Program} {s0:An} {n:Nat} {ops:Array Oper} {Q:Exit->AS->Prop} {rest:List Oper} {fr:List (Nat×AV)} {hp:List Ow}
theorem A34{u:Oper}{hpS:List Ow}(F:u.op=.call { callee:=.value x,args:=vJ.toArray,argTypes:=vs })(sel:List Nat){m:Nat}(E:GW hp=some m)(p:IQ (Bu sel m) hpS.length (AS.arg ⟨fr,hp⟩ x) vb [] [])
  (G:Con P vb o hpS l vt) (X:l.all (Nat.blt · sel.length)=true) (g:AvoidR sel (l.map (Bu sel m)) 0 hp) (t:ArgsC hp (Bu sel m) hpS.length (AS.arg ⟨fr,hp⟩) vJ o) (xc:sel.Nodup) (xa:SelR (Bu sel m) hp hpS.length sel hpS) (W:Td u.dst n=true)
  (next:∀r C,vt r C->∃L z j,AVRen (Bu sel m) r L/\SetR (Bu sel m) hp sel C z/\AppR (Bu sel m) z (Kp sel.length C) j/\AWl P s0 n ops Q rest (AS.put ⟨wipe (l.map (Bu sel m)) fr,j⟩ u.dst L)) :
  ∀(s:GS) (S:Nat->Value) (a:Act),StI s0 n ⟨fr,hp⟩ a s S->∀K:Act->World->Prop,(∀q M O,AWl P s0 n ops Q rest q->St s0 n q M O->K M O)->u.wp P a s.w K (FG s0 n Q):=by
 intro s S a w K d;have xh:o=([]:List Nat).map (AV.ptr · 0)++o++([]:List Nat).map (AV.ptr · 0):=by simp
 rw[xh]at G;obtain⟨I,U,xf,b,xd,xg⟩:=A1i F sel E p G.1 t xc xa (λi A=>by cases A) (λi A=>by cases A) w;obtain rfl:=ET E;have xb:LostOk sel l hp.length (wipe (l.map (Bu sel hp.length)) fr) hp:=.inr ⟨X,NU,g⟩;have V:=G.2 s (λk=>S (Bu sel hp.length k)) I w.ok b xd U xg;unfold Oper.wp;rw[xf];refine Calls.mono V λe O h=>?_;obtain⟨v,rfl,c,H,r,C,B,rfl,y,N⟩:=h;obtain⟨L,z,j,R,Z,Y,f⟩:=next r C B;replace R:L=r.ren (Bu sel hp.length):=R;rw[AppR,Ll]at Y;subst R;subst Y;obtain⟨xe,J,T⟩:=StI.con (sel:=sel) (hpS:=hpS) xb.get.1 xb.get.2 (w.wipe _) xc xa N Z;exact d _ _ _ f ⟨c,xe,rfl,J.put (GS.Le.refl c) (IG W) (T r v y)⟩
theorem BZ{q:TypeId}{t:Nat}(C:List Nat)(G:Con P vb o H l vt)(B:l.all (Nat.blt · C.length)=true)(K:AvoidR C (l.map (Bu C b)) 0 hp)(s:GW hp=some b)(p:IQ (Bu C b) H.length (AS.arg ⟨fr,hp⟩ x) vb [] [])
  (A:ArgsC hp (Bu C b) H.length (AS.arg ⟨fr,hp⟩) vJ o) (F:C.Nodup) (X:SelR (Bu C b) hp H.length C H) (W:Nat.blt t n=true)
  (next:∀r u,vt r u->∃I a E,AVRen (Bu C b) r I/\SetR (Bu C b) hp C u a/\AppR (Bu C b) a (Kp C.length u) E/\AWl P s0 n ops Q rest ⟨(t,I)::wipe (l.map (Bu C b)) fr,E⟩) :
  AWl P s0 n ops Q (⟨some t,.call { callee:=.value x,args:=vJ.toArray,argTypes:=vs },q,vF,vG,none⟩::rest) ⟨fr,hp⟩:=AWl.step rfl (A34 rfl C s p G B K A F X W next)
end
theorem ConP.con(h:ConP P vb o H vt vO vB)(Y:¬vB):Con P vb o H [] vt:=
 ⟨h.1,λs S F u A I V m=>(h.2 s S F u A I V m).mono λe O i=>i.elim (λh=>h) λ⟨_,h,_⟩=>absurd h Y⟩
def Zp(L:List Oper)(l:List (List (Nat×Nat)))(N:List AV)(J:List (Nat×AV))(n:Nat):Bool:=
 Nat.beq L.length l.length&&Nat.beq L.length N.length&&(J.all λp=>L.all λu=>u.dst != some p.1) &&
 (List.range L.length).all λi=>match L[i]?,l[i]? with
  |some o,some e=>Bz o.op&&o.guard.isNone&&((Bp o).all λk=>decide (k<i))&&(e.all λp=>(Bp o).contains p.2&&(match L[p.2]? with |some u=>u.dst==some p.1 |none=>false)) &&
   (match o.dst with | none=>false | some d=>decide (d<n)&&((List.range L.length).all λj=>j==i||(match L[j]? with | some u=>u.dst != some d | none=>true)))&&o.op.operands.all (MS L e)
  |_,_=>false
structure ChkD(L:List Oper)(n:Nat)(i:Nat)(o:Oper)(e:List (Nat×Nat))(d:Nat):Prop where
 ns:Bz o.op=true
 gd:o.guard=none
 lt:∀k∈Bp o,k<i
 env:∀p∈e,p.2∈Bp o/\∃o',L[p.2]? = some o'/\o'.dst=some p.1
 dst:o.dst=some d
 dn:d<n
 du:∀(j:Nat) o',L[j]? = some o'->o'.dst=some d->j=i
 kq:∀y∈o.op.operands,MS L e y=true
theorem A36{L:List Oper}(h:Zp L uG o vd n=true):L.length=o.length/\(∀p∈vd,∀E∈L,E.dst≠some p.1)/\∀(i:Nat) A,L[i]? = some A->∃e r d,uG[i]? = some e/\o[i]? = some r/\ChkD L n i A e d:=by
 unfold Zp at h;simp only[Bool.and_eq_true]at h;obtain⟨⟨⟨u,B⟩,I⟩,m⟩:=h;have B:=Nat.eq_of_beq_eq_true B;refine⟨B,λp F E O=>by simpa using List.all_eq_true.1 (List.all_eq_true.1 I p F) E O,λi A G=>?_⟩;have K:=(List.getElem?_eq_some_iff.1 G).1;have M:=List.all_eq_true.1 m i (List.mem_range.2 K);rw[G]at M
 cases a:uG[i]? with
 |none=>rw[a]at M;cases M
 |some e=>
  rw[a]at M;simp only[Bool.and_eq_true]at M;obtain⟨⟨⟨⟨⟨g,b⟩,S⟩,T⟩,V⟩,X⟩:=M
  cases W:A.dst with
  |none=>rw[W]at V;cases V
  |some d=>
   rw[W]at V;simp only[Bool.and_eq_true,decide_eq_true_eq]at V;refine⟨e,o[i]'(Zbx),d,rfl,List.getElem?_eq_getElem _,g,by simpa using b,λk C=>by simpa using List.all_eq_true.1 S k C,λp F=>?_,W,V.1,λj E O Q=>?_,λy N=>(Array.all_eq_true'.1 X) y N⟩
   .have:=List.all_eq_true.1 T p F
    simp only[Bool.and_eq_true]at this;refine⟨by simpa using this.1,?_⟩;have B:=this.2
    cases R:L[p.2]? with
    |none=>rw[R]at B;cases B
    |some E=>rw[R]at B;exact⟨E,rfl,by simpa using B⟩
   .have:=List.all_eq_true.1 V.2 j (List.mem_range.2 (List.getElem?_eq_some_iff.1 O).1)
    rw[O]at this;simpa[Q]using this
def Dl(F:List Ow)(id:Nat)(T N:Ow)(b:Bool):List Ow:=F.set id (bif b then N else T)
def Ye(P:Program)(J:List (Nat×AV))(F:List Ow)(id:Nat)(T u:Ow)(N:List AV)(l:List (Nat×Nat))(o:Oper)(r:AV):Prop:=∀b,Quiet P (Dl F id T u b) o (Eo ⟨J,Dl F id T u b⟩ (N.map HR.av) l) r
def DCall(P:Program)(J:List (Nat×AV))(F:List Ow)(id:Nat)(T A:Ow)(N:List AV)(l:List (Nat×Nat))(o:Oper)(r:AV):Prop:=∃f x p d,o.op=.call { callee:=.value (.func f),args:=#[x],argTypes:=p }/\r=.d d/\(∀b,Eo ⟨J,Dl F id T A b⟩ (N.map HR.av) l x=.ptr id 0)/\Con P f [.ptr 0 0] [T] [] (λI u=>I=.d d/\u=[A])
def DSteps(P:Program)(J:List (Nat×AV))(F:List Ow)(id:Nat)(T u:Ow)(N:List AV)(c:Nat)(C:List (Nat×Nat)->Oper->AV->Prop):Nat->List Oper->List (List (Nat×Nat))->List AV->Prop
 |i,o::L,x::S,r::R=>(bif Nat.beq i c then C x o r else Ye P J F id T u N x o r)/\DSteps P J F id T u N c C (i+1) L S R
 |_,[],[],[]=>True
 |_,_,_,_=>False
theorem DSteps.at{P:Program}{J:List (Nat×AV)}{hp:List Ow}{id:Nat}{T F:Ow}{N:List AV}{c:Nat}{C:List (Nat×Nat)->Oper->AV->Prop}:∀{L:List Oper} {S:List (List (Nat×Nat))} {R:List AV} {j:Nat},DSteps P J hp id T F N c C j L S R->∀(i:Nat) o x r,L[i]? = some o->S[i]? = some x->R[i]? = some r->(bif Nat.beq (j+i) c then C x o r else Ye P J hp id T F N x o r)
 |[],[],[],_,_,i,o,x,c,h,_,_=>by simp at h
 |[],[],_::_,_,h,_,_,_,_,_,_,_=>h.elim
 |[],_::_,R,_,h,_,_,_,_,_,_,_=>by cases R<;>exact h.elim
 |_::_,[],R,_,h,_,_,_,_,_,_,_=>by cases R<;>exact h.elim
 |_::_,_::_,[],_,h,_,_,_,_,_,_,_=>h.elim
 |k::L,I::S,E::R,j,⟨u,A⟩,0,o,x,c,n,B,G=>by
  simp at n B G;subst n;subst B;subst G;exact u
 |k::L,I::S,E::R,j,⟨u,A⟩,i+1,o,x,c,n,B,G=>by
  have:=DSteps.at A i o x c Zef Zck Zed;rwa [show j+1+i=j+(i+1)by omega]at this
def Qm:List Oper->List AV->List (Nat×AV)->List (Nat×AV)
 |o::L,r::N,S=>match o.dst with |some d=>(d,r)::Qm L N S |none=>Qm L N S
 |_,_,S=>S
theorem Ud{p:Nat×AV}:∀{L:List Oper} {N:List AV} {S:List (Nat×AV)},p∈Qm L N S->p∈S\/∃(i:Nat) (o:Oper),L[i]? = some o/\N[i]? = some p.2/\o.dst=some p.1
 |[],_,S,h=>.inl (by unfold Qm at h;exact h)
 |o::L,[],S,h=>.inl (by unfold Qm at h;exact h)
 |o::L,c::N,S,h=>by
  have key:p∈Qm L N S->p∈S\/∃(i:Nat) (k:Oper),(o::L)[i]? = some k/\(c::N)[i]? = some p.2/\k.dst=some p.1:=λh=>by
   rcases Ud h with h | ⟨i,k,h1,h2,h3⟩
   .exact .inl h
   .exact .inr ⟨i+1,k,by simpa using h1,by simpa using h2,h3⟩
  unfold Qm at h;split at h
  .rename_i d W
   rcases List.mem_cons.1 h with rfl | h
   .exact .inr ⟨0,o,rfl,rfl,W⟩
   .exact key h
  .exact key h
theorem MT(F:List Ow)(id:Nat)(T N:Ow)(b:Bool):(Dl F id T N b).length=F.length:=by simp[Dl]
def DCallP(P:Program)(J:List (Nat×AV))(F:List Ow)(id:Nat)(T:Ow)(u:List AV)(Y:AV->List Ow->Prop)(q:List PanicEntry)(N:Prop)(l:List (Nat×Nat))(o:Oper)(_:AV):Prop:=∃f x p,o.op=.call { callee:=.value (.func f),args:=#[x],argTypes:=p }/\(∀b,Eo ⟨J,Dl F id T T b⟩ (u.map HR.av) l x=.ptr id 0)/\ConP P f [.ptr 0 0] [T] Y q N
def OE(L:List Oper):List Nat->List Nat->Bool
 |_,[]=>true
 |seen,k::r=>(seen.any λj=>match L[j]? with |some o=>(Bp o).contains k |none=>false)&&OE L (k::seen) r
theorem QQ{L:List Oper}{listed:Array Bool}:∀{E seen:List Nat},OE L seen E=true->(∀i o,L[i]? = some o->listed.getD i false=true->∀e∈Bp o,listed.getD e false=true)->(∀k∈seen,∀o,L[k]? = some o->∀e∈Bp o,listed.getD e false=true)->∀k∈E,listed.getD k false=true
 |[],_,_,_,_,k,B=>by cases B
 |k::r,seen,h,G,b,S,C=>by
  unfold OE at h;simp only[Bool.and_eq_true]at h;obtain⟨j,A,u⟩:=List.any_eq_true.1 h.1
  have J:listed.getD k false=true:=by
   cases O:L[j]? with
   |none=>rw[O]at u;cases u
   |some o=>
    rw[O]at u;exact b j A o O k (by simpa using u)
  rcases List.mem_cons.1 C with rfl | C
  .exact J
  .exact QQ h.2 G (λq z o n=>by
    rcases List.mem_cons.1 z with rfl | z
    .exact G q o n J
    .exact b q z o n) S C
section
variable {P:Program} {frB:List (Nat×AV)} {hp:List Ow} {id:Nat} {o0 o1:Ow} {ks:List AV} {c i:Nat} {C:List (Nat×Nat)->Oper->AV->Prop} {L:List Oper} {x:List (Nat×Nat)} {S:List (List (Nat×Nat))} {r:AV} {R:List AV} {o:Oper}
theorem DSteps.q(u:Nat.beq i c=false)(h:Ye P frB hp id o0 o1 ks x o r)(b:DSteps P frB hp id o0 o1 ks c C (i+1) L S R):DSteps P frB hp id o0 o1 ks c C i (o::L) (x::S) (r::R):=⟨by rw[u];exact h,b⟩
theorem DSteps.k(u:Nat.beq i c=true)(h:C x o r)(b:DSteps P frB hp id o0 o1 ks c C (i+1) L S R):DSteps P frB hp id o0 o1 ks c C i (o::L) (x::S) (r::R):=⟨by rw[u];exact h,b⟩
theorem DSteps.nil:DSteps P frB hp id o0 o1 ks c C i [] [] []:=trivial
variable {dd:Option Tmp} {ty:TypeId} {ps:String} {af:Array Edge} {gd:Option (Nat×Bool)} {f:FuncId} {y:Operand} {tys:Array TypeId} {es:List (Nat×Nat)}
theorem DCall.mk{d:D}(u:∀b,Eo ⟨frB,Dl hp id o0 o1 b⟩ (ks.map HR.av) es y=.ptr id 0)(G:Con P f [.ptr 0 0] [o0] [] (λI A=>I=.d d/\A=[o1])):DCall P frB hp id o0 o1 ks es ⟨dd,.call { callee:=.value (.func f),args:=#[y],argTypes:=tys },ty,ps,af,gd⟩ (.d d):=⟨f,y,tys,d,rfl,rfl,u,G⟩
theorem DCallP.mk(u:∀b,Eo ⟨frB,Dl hp id o0 o0 b⟩ (ks.map HR.av) es y=.ptr id 0)(G:ConP P f [.ptr 0 0] [o0] vt vO vB):DCallP P frB hp id o0 ks vt vO vB es ⟨dd,.call { callee:=.value (.func f),args:=#[y],argTypes:=tys },ty,ps,af,gd⟩ r:=⟨f,y,tys,rfl,u,G⟩
end
def DTurn(P:Program)(s0:An)(n:Nat)(J:List (Nat×AV))(u:List Ow)(id:Nat)(T B:Ow)(N:List AV)(h:List Nat)(c:Nat)(l:List (Nat×Nat))(o:Oper)(r:AV):Prop:=∀F:List (Nat×AV),(∀p∈F,(∃i,i≠c/\i∉h/\N[i]? = some p.2)\/p∈J)->∀(s:GS) (S:Nat->Value) (a:Act),StI s0 n ⟨F,Dl u id T B false⟩ a s S->(∀y∈o.op.operands,AVr u.length S s (Eo ⟨J,Dl u id T B false⟩ (N.map HR.av) l y) (a.eval y))->RegG.OpStep P o a.eval s λv A=>∃H,StI s0 n ⟨F,Dl u id T B true⟩ a A H/\AVr u.length H A r v
structure DInvT(s0:An)(n:Nat)(hp:List Ow)(id:Nat)(o0 o1:Ow)(c:Nat)(lose:List Nat)(L:List Oper)(ks:List AV)(frB:List (Nat×AV))(listed:Array Bool)(a:Act)(s:GS)(ρ:Nat->Value):Prop where
 st:StI s0 n ⟨[],Dl hp id o0 o1 (listed.getD c false)⟩ a s ρ
 hq:∀i o d r,L[i]? = some o->o.dst=some d->ks[i]? = some r->listed.getD i false=true->(i∈lose->listed.getD c false=false)->AVr hp.length ρ s r (a.tmps.getD d undef)
 hb:∀p∈frB,AVr hp.length ρ s p.2 (a.tmps.getD p.1 undef)
def RF(h:List Nat):Nat->List AV->List AV
 |_,[]=>[]
 |i,r::N=>(bif h.any (Nat.beq i)then .d Cw else r)::RF h (i+1) N
theorem Ti{u:List Nat}:∀{N:List AV} {j i:Nat},(RF u j N)[i]? = (N[i]?).map λr=>if j+i∈u then .d Cw else r
 |[],j,i=>by simp[RF]
 |r::N,j,0=>by
  have:u.any (Nat.beq j)=decide (j∈u):=by
   rw[Bool.eq_iff_iff,List.any_eq_true,decide_eq_true_eq];exact⟨λ⟨x,C,h⟩=>by rw[Nat.eq_of_beq_eq_true h];exact C,λh=>⟨j,h,Nat.beq_refl j⟩⟩
  simp only[RF,this,List.getElem?_cons_zero,Option.map_some,Nat.add_zero];by_cases h:j∈u<;>simp[h]
 |r::N,j,i+1=>by
  simp only[RF,List.getElem?_cons_succ];rw[Ti,show j+1+i=j+(i+1)by omega]
def ckK(h:List Nat)(N:List AV):List CK:=N.mapIdx λi r=>if i∈h then .t 0 else .q r
theorem XX{r:AV}:(ckK l o)[n]? = some (.q r)↔n∉l/\o[n]? = some r:=by
 unfold ckK;rw[List.getElem?_mapIdx]
 cases o[n]? with
 |none=>simp
 |some x=>
  simp only[Option.map_some,Option.some.injEq];by_cases h:n∈l
  .simp [h]
  .simp [h]
theorem DSteps.imp{P:Program}{J:List (Nat×AV)}{F:List Ow}{id:Nat}{T G:Ow}{N:List AV}{c:Nat}{C K:List (Nat×Nat)->Oper->AV->Prop}(h:∀x o r,C x o r->K x o r):∀{L:List Oper} {S:List (List (Nat×Nat))} {R:List AV} {j:Nat},DSteps P J F id T G N c C j L S R->DSteps P J F id T G N c K j L S R
 |[],[],[],_,_=>trivial
 |[],[],_::_,_,h=>h.elim
 |[],_::_,R,_,h=>by cases R<;>exact h.elim
 |_::_,[],R,_,h=>by cases R<;>exact h.elim
 |_::_,_::_,[],_,h=>h.elim
 |k::L,I::S,B::R,j,⟨u,A⟩=>⟨by
  cases E:Nat.beq j c with
  |true=>rw[E]at u;exact h _ _ _ u
  |false=>rw[E]at u;exact u,DSteps.imp h A⟩
def DTW(P:Program)(s0:An)(n:Nat)(Q:Exit->AS->Prop)(E:Prop)(J:List (Nat×AV))(u:List Ow)(id:Nat)(T B:Ow)(N:List AV)(h:List Nat)(c:Nat)(l:List (Nat×Nat))(o:Oper)(r:AV):Prop:=Bz o.op=true->∀F:List (Nat×AV),(∀p∈F,(∃i,i≠c/\i∉h/\N[i]? = some p.2)\/p∈J)->∀(s:GS) (S:Nat->Value) (a:Act),StI s0 n ⟨F,Dl u id T B false⟩ a s S->(∀y∈o.op.operands,AVr u.length S s (Eo ⟨J,Dl u id T B false⟩ (N.map HR.av) l y) (a.eval y))->∀R:Act->World->Prop,(∀v A H,E->StI s0 n ⟨F,Dl u id T B true⟩ a A H->AVr u.length H A r v->R (a.put o.dst v) A.w)->o.wp P a s.w R (FG s0 n Q)
theorem KP{E:Prop}{s0:An}{L:List Oper}(id:Nat)(o0 o1:Ow)(c m:Nat)(xG xm:List Nat)(ks:List AV)(T:List (List (Nat×Nat)))(xh F:List (Nat×AV))(hm:P.follows .mixedOrders=true)(xo:H[id]? = some o0)(xV:FrIn vd xh)(xq:Nat.blt c m=true)(hL:Nat.blt m L.length=true)(yk:E->((List.range (L.length-m)).all λt=>(match L[m+t]? with | some o=>Bp o | none=>[]).all λk=>decide (k<m+t))=true)(yn:((List.range (L.length-m-1)).all λt=>(match L[m+t+1]? with | some o=>Bp o | none=>[]).contains (m+t))=true)(xW:(OE L [m] xG&&(List.range m).all λj=>xG.contains j)=true)
  (steps:DSteps P xh H id o0 o1 ks c (DTW P s0 n vl E xh H id o0 o1 ks xm c) 0 (L.take m) T ks) (xc:Zp (L.take m) T ks xh n=true) (xF:(T.zipIdx.all λp=>Nat.beq p.2 c||p.1.all λq=>!xm.contains q.2)=true) (hF:FrIn (Qm (L.take m) (RF xm 0 ks) xh) F) (M:List Ow) (hM:Dl H id o0 o1 true=M) (fin:E->AWl P s0 n L.toArray vl (L.drop m) ⟨F,M⟩):AWp P s0 n (.region b L.toArray true) vl ⟨vd,H⟩:=by
 refine⟨λa w ⟨s,S,hw,xb⟩=>?_⟩;subst hw;subst hM;have xZ:=xV.mem;obtain⟨yt,xv,xH⟩:=A36 xc;have xR:c<m:=by rwa [Nat.blt_eq]at xq
 have yF:m<L.length:=by rwa [Nat.blt_eq]at hL
 have ys:E->∀k o,m<=k->L[k]? = some o->∀j∈Bp o,j<k:=λX k o C U j z=>by
  have yb:=(List.getElem?_eq_some_iff.1 U).1;have A:=List.all_eq_true.1 (yk X) (k-m) (List.mem_range.2 Zbx);rw[show m+(k-m)=k by omega,U]at A;simpa using List.all_eq_true.1 A j z
 have yv:∀k o,m<k->L[k]? = some o->k-1∈Bp o:=λk o C U=>by
  have yb:=(List.getElem?_eq_some_iff.1 U).1;have A:=List.all_eq_true.1 yn (k-1-m) (List.mem_range.2 Zbx);rw[show m+(k-1-m)+1=k by omega,show m+(k-1-m)=k-1 by omega,U]at A;exact List.contains_iff_mem.1 A
 have yE:(L.take m).length=m:=ZgB
 simp only[Bool.and_eq_true]at xW
 have yD:∀{i:Nat} {o:Oper},(L.take m)[i]? = some o->L[i]? = some o:=λ{i o} h=>by
  rw[List.getElem?_take]at h;split at h
  .exact h
  .cases h
 have xA:id<H.length:=BV xo;have xT:∀u,(Dl H id o0 o1 u)[id]? = some (bif u then o1 else o0):=λu=>by simp[Dl,xA]
 have xL:∀u,(Dl H id o0 o1 u).length=H.length:=MT H id o0 o1
 have xu:∀j,(Array.replicate L.toArray.size false).getD j false=false:=λj=>Zak
 have yc:Dl H id o0 o1 false=H:=by
  unfold Dl;apply List.ext_getElem?;intro i;rw[List.getElem?_set];split
  .rename_i h;subst h;exact xo.symm
  .rfl
 have yf:StI s0 n ⟨vd,H⟩ a s.dr S:=xb.put (Iq s) (dst:=none) (λd W=>by cases W) (v:=undef) (r:=.d Cw) trivial;refine wp_region_any hm (LT (λxd a' Q=>(∃Z xg,Z.w=Q/\(∀k,m<=k->xd.getD k false=false)/\(∀i o,L[i]? = some o->xd.getD i false=true->∀e∈Bp o,xd.getD e false=true)/\(xd.getD c false=true->E)/\DInvT s0 n H id o0 o1 c xm (L.take m) ks xh xd a' Z xg)\/(∃t,m<=t/\t<=L.length/\E/\(∀i,i<t->xd.getD i false=true)/\(∀i,t<=i->xd.getD i false=false)/\wpList P L.toArray (FG s0 n vl) (L.drop t) a' Q)) ?_ ?_ _ _ a s.w.drew ZbK ?_ (.inl ⟨s.dr,S,rfl,λk _=>xu k,(λi o _ h=>absurd (h.symm.trans (xu _)) ZbA),(λh=>absurd (h.symm.trans (xu _)) ZbA),by rw[xu,yc];exact yf.bare,(λi o d r _ _ _ h _=>absurd (h.symm.trans (xu _)) ZbA),(λp xa=>yf.fr _ _ (xZ p xa))⟩))
 .intro xd a' w1 i xf hI K
  rcases hI with⟨s1,xz,rfl,yd,yi,X,xe⟩ | ⟨t,htm,htl,hE2,hall,hnone,hrest⟩
  rotate_left
  .have xf:xd.size=L.length:=by simpa using xf
   obtain⟨_,o,U,_⟩:=mem_ready.1 K;have U:L[i]? = some o:=by simpa using U
   have xS:=(List.getElem?_eq_some_iff.1 U).1;obtain⟨xr,xp⟩:=(CV xf U).1 K
   have xy:t<=i:=by
    rcases Nat.lt_or_ge i t with h | h
    .rw [hall i h]at xr;cases xr
    .exact h
   have yA:i=t:=by
    rcases Nat.lt_or_eq_of_le xy with h | h
    .have A:=xp _ (yv i o Zbx U)
     rw[hnone (i-1) Zbx]at A;cases A
    .exact h.symm
   subst yA
   have yx:L.drop i=o::L.drop (i+1):=by
    rw[List.drop_eq_getElem_cons xS];congr 1;have:=List.getElem?_eq_getElem xS;rw[U]at this;exact(Option.some.inj this).symm
   rw[yx]at hrest
   have ym:wpOp P L.toArray (FG s0 n vl) i (λxO xt=>wpList P L.toArray (FG s0 n vl) (L.drop (i+1)) xO xt) a' w1:=by
    unfold wpOp;rw[show L.toArray[i]? = some o by simpa using U];exact hrest
   refine wpOp_mono (λxO xt h=>.inr ⟨i+1,by omega,by omega,hE2,λk C=>?_,λk C=>?_,h⟩) ym
   .by_cases e:k=i
    .subst e;simp[show k<xd.size by omega]
    .rw [getD_set_ne false (λe'=>e e'.symm)]
     exact hall k Zbx
   .rw [getD_set_ne false Zbx]
    exact hnone k Zbx
  have xf:xd.size=L.length:=by simpa using xf
  obtain⟨_,o,U,_⟩:=mem_ready.1 K;have U:L[i]? = some o:=by simpa using U
  obtain⟨xr,xp⟩:=(CV xf U).1 K
  have yq:∀(i:Nat),i<L.length->∀k,(xd.setIfInBounds i true).getD k false=true↔k=i\/xd.getD k false=true:=λi K k=>by
   by_cases C:k=i
   .subst C;simp[show k<xd.size by omega]
   .exact ZaN
  have yp:∀i' J,L[i']? = some J->(xd.setIfInBounds i true).getD i' false=true->∀e∈Bp J,(xd.setIfInBounds i true).getD e false=true:=λi' J xj G e' xB=>by
   have xS:=(List.getElem?_eq_some_iff.1 U).1;rw[yq i xS]at G ⊢;rcases G with rfl | G
   .obtain rfl:J=o:=Option.some.inj (xj.symm.trans U)
    exact .inr (xp e' xB)
   .exact .inr (yi i' J xj G e' xB)
  have yG:i<=m:=by
   rcases Nat.lt_or_ge m i with h | h
   .have A:=xp _ (yv i o h U)
    rw[yd (i-1) Zbx]at A;cases A
   .exact h
  by_cases yr:i=m
  .subst yr
   have yB:=QQ (L:=L) (listed:=xd) xW.1 yi (λk C J xj e V=>by
    obtain rfl:k=i:=by simpa using C
    obtain rfl:J=o:=Option.some.inj (xj.symm.trans U);exact xp e V)
   have xY:∀k,k<i->xd.getD k false=true:=λk C=>yB k (by simpa using List.all_eq_true.1 xW.2 k (List.mem_range.2 C));have xb:=xe.st;rw[xY c xR]at xb
   have yC:St s0 n ⟨F,Dl H id o0 o1 true⟩ a' s1.w:=⟨s1,xz,rfl,xb.le,xb.ok,λt av N=>by
    rw[show(⟨F,Dl H id o0 o1 true⟩:AS).hp.length=H.length from xL _];rcases Ud (Ed (hF.mem _ (Ed N)))with h | ⟨i',J,A,B,I⟩
    .exact xe.hb _ h
    .rw [Ti,Nat.zero_add]at B
     cases C:ks[i']? with
     |none=>rw[C]at B;cases B
     |some r'=>
      rw[C]at B;have B:(if i'∈xm then AV.d Cw else r')=av:=Option.some.inj B;by_cases yl:i'∈xm
      .rw [if_pos yl]at B
       subst B;trivial
      .rw [if_neg yl]at B
       subst B;exact xe.hq i' J t r' A I C (xY i' (by have:=(List.getElem?_eq_some_iff.1 A).1;omega)) λh=>absurd h yl,xb.sz,xb.df,xb.hp,xb.sep,xb.own⟩
   have xS:=(List.getElem?_eq_some_iff.1 U).1
   have yy:L.drop i=o::L.drop (i+1):=by
    rw[List.drop_eq_getElem_cons xS];congr 1;have:=List.getElem?_eq_getElem xS;rw[U]at this;exact(Option.some.inj this).symm
   have xn:=(fin (X (xY c xR))).run a' s1.w yC;rw[yy]at xn
   have ym:wpOp P L.toArray (FG s0 n vl) i (λxO xt=>wpList P L.toArray (FG s0 n vl) (L.drop (i+1)) xO xt) a' s1.w:=by
    unfold wpOp;rw[show L.toArray[i]? = some o by simpa using U];exact xn
   refine wpOp_mono (λxO xt h=>.inr ⟨i+1,by omega,by omega,X (xY c xR),λk C=>?_,λk C=>?_,h⟩) ym
   .rw [yq i Zbx]
    rcases Nat.lt_or_ge k i with h | h
    .exact .inr (xY k h)
    .exact .inl Zbx
   .rw [getD_set_ne false Zbx]
    exact yd k Zbx
  have yz:i<m:=by omega
  have ye:(L.take m)[i]? = some o:=by rw[List.getElem?_take,if_pos yz];exact U
  obtain⟨e,r,d,V,Y,ck⟩:=xH i o ye;have xS:i<xd.size:=by rw[xf];exact(List.getElem?_eq_some_iff.1 U).1
  have xw:=steps.at i o e r ye V Y;rw[Nat.zero_add]at xw;have xJ:L.toArray[i]? = some o:=by simpa using U
  have xK:d<a'.tmps.size:=by rw[xe.st.sz];exact ck.dn
  have xx:∀k,(xd.setIfInBounds i true).getD k false=true↔k=i\/xd.getD k false=true:=λk=>by
   by_cases C:k=i
   .subst C;simp[xS]
   .exact ZaN
  have xi:∀i' J d',(L.take m)[i']? = some J->J.dst=some d'->xd.getD i' false=true->d'≠d:=λi' J d' xj xl G e'=>by
   subst e';have:=ck.du i' J xj xl;subst this;rw[xr]at G;cases G
  have yh:∀p∈xh,p.1≠d:=λp xa e'=>xv p xa o (List.mem_of_getElem? ye) (by rw[e'];exact ck.dst)
  have yg:∀(R:Act->World->Prop),o.wp P a' s1.w (λxO xt=>R xO xt) (FG s0 n vl)->wpOp P L.toArray (FG s0 n vl) i (λxO xt=>R xO xt) a' s1.w:=λR h=>by
   unfold wpOp;rw[xJ];show if Region.wanted o (yielded L.toArray a'.tmps)=true then _ else _
   exact ZgM
  have xP:∀u y,MS (L.take m) e y=true->AVr H.length xz s1 (Eo ⟨xh,Dl H id o0 o1 u⟩ (ks.map HR.av) e y) (a'.eval y):=λu y O=>by
   cases y with
   |tmp t=>
    show AVr _ xz s1 (match e.find? (λp=>p.1==t)with
     |some p=>match (ks.map HR.av)[p.2]? with
      |some h=>h.val
      |none=>.d Cw
     |none=>(BR xh t).getD (.d Cw)) (a'.tmps.getD t undef)
    cases yj:e.find? (λp=>p.1==t)with
    |some p=>
     have xa:p∈e:=List.mem_of_find?_eq_some yj;have xI:p.1=t:=by simpa using List.find?_some yj
     simp only;rw[List.getElem?_map]
     cases xU:ks[p.2]? with
     |none=>trivial
     |some r'=>
      obtain⟨xN,J,xj,xl⟩:=ck.env p xa
      have:=xe.hq p.2 J p.1 r' xj xl xU (xp _ xN) λyl=>by
       have hz:=List.all_eq_true.1 xF (e,i) (by rw[List.mem_zipIdx_iff_getElem?];exact V);simp only[Bool.or_eq_true]at hz;rcases hz with hz | hz
       .rw [<-Nat.eq_of_beq_eq_true hz];exact xr
       .have:=List.all_eq_true.1 hz p xa
        simp[yl]at this
      rwa [xI]at this
    |none=>
     simp only
     cases G:BR xh t with
     |none=>trivial
     |some av=>exact xe.hb (t,av) (Ed G)
   |const v=>exact ZhI
   |global u=>trivial
   |func f=>exact ZhJ
  by_cases ya:i=c
  .subst ya
   rw[Nat.beq_refl]at xw;have xw:DTW P s0 n vl E xh H id o0 o1 ks xm i e o r:=xw
   have xC:StI s0 n ⟨[],Dl H id o0 o1 false⟩ a' s1 xz:=by
    have:=xe.st;rwa [xr]at this
   have yu:∀p∈GP (L.take m) (ckK xm ks) xh xd,((∃i',i'≠i/\i'∉xm/\ks[i']? = some p.2)\/p∈xh)/\AVr H.length xz s1 p.2 (a'.tmps.getD p.1 undef):=λp xa=>by
    rcases Dv.1 xa with⟨i',J,g1,g2,g3,g4⟩ | g
    .obtain ⟨g5,g6⟩:=XX.1 g2
     exact⟨.inl ⟨i',(λe'=>by rw[e',xr]at g4;cases g4),g5,g6⟩,xe.hq i' J p.1 p.2 g1 g3 g6 g4 λ_=>xr⟩
    .exact ⟨.inr g,xe.hb _ g⟩
   have yo:StI s0 n ⟨GP (L.take m) (ckK xm ks) xh xd,Dl H id o0 o1 false⟩ a' s1 xz:=⟨xC.le,xC.ok,λt av N=>by
    rw[show(⟨GP (L.take m) (ckK xm ks) xh xd,Dl H id o0 o1 false⟩:AS).hp.length=H.length from xL _];exact(yu (t,av) (Ed N)).2,xC.sz,xC.df,xC.hp,xC.sep,xC.own⟩
   refine yg _ (xw ck.ns _ (λp xa=>(yu p xa).1) s1 xz a' yo (λy O=>xP false y (ck.kq y O)) _ ?_)
   .intro v Z xE xk xs h6
    have xQ:∀(p:Nat×AV),p∈GP (L.take m) (ckK xm ks) xh xd->AVr H.length xE Z p.2 (a'.tmps.getD p.1 undef):=λp xa=>by
     have:=xs.fr p.1 p.2 (Mk xa λq hq l=>by
      rcases Dv.1 xa with⟨i1,o1,g1,g2,g3,g4⟩ | g<;>rcases Dv.1 hq with⟨i2,o2,k1,k2,k3,k4⟩ | k0
      .rw [l]at k3
       obtain⟨_,_,d3,_,_,xX⟩:=xH i1 o1 g1;obtain rfl:d3=p.1:=Option.some.inj (xX.dst.symm.trans g3);obtain rfl:=xX.du i2 o2 k1 k3;rw[g2]at k2;have:=Option.some.inj k2;simp only[CK.q.injEq]at this;exact Prod.ext l this.symm
      .exact absurd (g3.trans (congrArg some l.symm)) (xv q k0 o1 (List.mem_of_getElem? g1))
      .exact absurd (k3.trans (congrArg some l)) (xv p g o2 (List.mem_of_getElem? k1))
      .have A:=xZ p g
       have B:=xZ q k0;rw[l,A]at B;exact Prod.ext l (Option.some.inj B).symm)
     rwa [show(⟨GP (L.take m) (ckK xm ks) xh xd,Dl H id o0 o1 true⟩:AS).hp.length=H.length from xL _]at this
    refine .inl ⟨Z,xE,rfl,λk C=>by rw[getD_set_ne false Zbx];exact yd k C,yp,λ_=>xk,?_⟩;have A:=xs.put (GS.Le.refl Z) (dst:=o.dst) (λd' xl=>by rw[ck.dst]at xl;cases xl;exact ck.dn) (v:=v) (r:=.d Cw) trivial;rw[ck.dst]at A ⊢;refine⟨?_,λi' J d' r xj xl xD G xM=>?_,λp xa=>?_⟩
    .rw [(xx i).2 (.inl rfl)]
     exact A.bare
    .rw [xx]at G
     rcases G with rfl | G
     .obtain rfl:J=o:=Option.some.inj (xj.symm.trans ye)
      obtain rfl:d'=d:=Option.some.inj (xl.symm.trans ck.dst);obtain rfl:=Option.some.inj (xD.symm.trans Y);rw[HT xK];exact h6
     .rw [Eg (xi i' J d' xj xl G)]
      exact xQ (d',r) (Dv.2 (.inl ⟨i',J,xj,XX.2 ⟨(λh=>by have h:=xM h;rw[(xx i).2 (.inl rfl)]at h;cases h),xD⟩,xl,G⟩))
    .rw [Eg (yh p xa)]
     exact xQ p (Dv.2 (.inr xa))
  .have yw:Nat.beq i c=false:=by
    cases h:Nat.beq i c with
    |false=>rfl
    |true=>exact absurd (Nat.eq_of_beq_eq_true h) ya
   rw[yw]at xw;have xw:Ye P xh H id o0 o1 ks e o r:=xw;have hq:=(xw (xd.getD c false)).run 0 s1 xz a'.eval xe.st.ok (Nat.zero_le _) xe.st.hp (λy O=>by rw[xL];exact xP _ y (ck.kq y O));rw[xL]at hq;refine yg _ (RegG.opStep_wp ck.ns (λ_ _=>rfl) hq λv s2 ⟨A,B⟩=>.inl ⟨s2,xz,rfl,λk C=>by rw[getD_set_ne false Zbx];exact yd k C,yp,λh=>X (by rwa [getD_set_ne false (λe=>ya e)]at h),?_⟩);have I:=xe.st.put A (dst:=o.dst) (λd' xl=>by rw[ck.dst]at xl;cases xl;exact ck.dn) (v:=v) (r:=.d Cw) trivial;rw[ck.dst]at I ⊢;refine⟨?_,λi' J d' r' xj xl xD G xM=>?_,λp xa=>?_⟩
   .rw [getD_set_ne false (λe=>ya e)]
    exact I.bare
   .rw [xx]at G
    rcases G with rfl | G
    .obtain rfl:J=o:=Option.some.inj (xj.symm.trans ye)
     obtain rfl:d'=d:=Option.some.inj (xl.symm.trans ck.dst);obtain rfl:r'=r:=Option.some.inj (xD.symm.trans Y);rw[HT xK];exact B
    .rw [Eg (xi i' J d' xj xl G)]
     exact(xe.hq i' J d' r' xj xl xD G λh=>by have h:=xM h;rwa [getD_set_ne false (λe=>ya e)]at h).chg A.chg
   .rw [Eg (yh p xa)]
    exact(xe.hb p xa).chg A.chg
 .intro xd a' w1 xf hI x
  have xf:xd.size=L.length:=by simpa using xf
  have xY:∀i,i<m->xd.getD i false=true:=by
   intro i
   induction i using Nat.strongRecOn with
   |_ i ih=>
    intro K;have U:L[i]? = some (L[i]'(Zbx)):=List.getElem?_eq_getElem Zbx;have ye:(L.take m)[i]? = some (L[i]'(Zbx)):=by rw[List.getElem?_take,if_pos K];exact U
    obtain⟨e,r,d,V,Y,ck⟩:=xH i _ ye
    cases hg:xd.getD i false with
    |true=>rfl
    |false=>
     have:i∈Region.ready .any L.toArray xd:=(CV xf U).2 ⟨hg,λk C=>ih k (ck.lt k C) (by have:=ck.lt k C;omega)⟩;rw[x]at this;cases this
  rcases hI with⟨s1,xz,rfl,yd,_,X,_⟩ | ⟨t,htm,htl,hE2,hall,hnone,hrest⟩
  .have U:L[m]? = some (L[m]'(Zbx)):=List.getElem?_eq_getElem Zbx
   have:m∈Region.ready .any L.toArray xd:=(CV xf U).2 ⟨yd m (Nat.le_refl _),λk C=>xY k (ys (X (xY c xR)) m _ (Nat.le_refl _) U k C)⟩;rw[x]at this;cases this
  .rcases Nat.lt_or_eq_of_le htl with h | h
   .have U:L[t]? = some (L[t]'h):=List.getElem?_eq_getElem h
    have:t∈Region.ready .any L.toArray xd:=(CV xf U).2 ⟨hnone t (Nat.le_refl _),λk C=>hall k (ys hE2 t _ htm U k C)⟩;rw[x]at this;cases this
   .rw [h,List.drop_length]at hrest
    exact hrest
 .rw [Array.count_replicate]
  simp
theorem IR{s0:An}(id:Nat)(L Q:Ow)(c m:Nat)(Y R:List Nat)(N:List AV)(l:List (List (Nat×Nat)))(K F:List (Nat×AV))(E:P.follows .mixedOrders=true)(V:H[id]? = some L)(d:FrIn vd K)(W:Nat.blt c m=true)(O:Nat.blt m vf.length=true)(f:((List.range (vf.length-m)).all λt=>(match vf[m+t]? with | some o=>Bp o | none=>[]).all λk=>decide (k<m+t))=true)(g:((List.range (vf.length-m-1)).all λt=>(match vf[m+t+1]? with | some o=>Bp o | none=>[]).contains (m+t))=true)(e:(OE vf [m] Y&&(List.range m).all λj=>Y.contains j)=true)
  (steps:DSteps P K H id L Q N c (DTurn P s0 n K H id L Q N R c) 0 (vf.take m) l N) (T:Zp (vf.take m) l N K n=true) (X:(l.zipIdx.all λp=>Nat.beq p.2 c||p.1.all λq=>!R.contains q.2)=true) (hF:FrIn (Qm (vf.take m) (RF R 0 N) K) F) (M:List Ow) (i:Dl H id L Q true=M) (fin:AWl P s0 n vf.toArray vl (vf.drop m) ⟨F,M⟩):AWp P s0 n (.region b vf.toArray true) vl ⟨vd,H⟩:=KP (E:=True) id L Q c m Y R N l K F E V d W O (λ_=>f) g e (steps.imp λ_ _ _ h Z F hF s S a B G _ J=>RegG.opStep_wp Z (λ_ _=>rfl) (h F hF s S a B G) λv C ⟨I,u,A⟩=>J v C I trivial u A) T X hF M i λ_=>fin
theorem Th:∀(i:Nat) (N:List AV),RF [] i N=N
 |_,[]=>rfl
 |i,r::N=>by
  unfold RF;rw[Th];rfl
theorem Con.toP{ch:List PanicEntry}(h:Con P vb o H [] vt):ConP P vb o H vt ch False:=⟨h.1,λs S F u A I V m=>Calls.mono (h.2 s S F u A I V m) λ_ _ ⟨v,e,r⟩=>.inl ⟨v,e,r⟩⟩
theorem UV{s0:An}{E:Prop}{Y a:Ow}{l:List (Nat×Nat)}{A:Oper}{r:AV}{ch:List PanicEntry}(i:H[b]? = some Y)(xi:(∀e,Y.ren e=Y)/\(∀e,a.ren e=a)/\Y.below 1)(M:A.op=.call { callee:=.value (.func vb),args:=#[x],argTypes:=vs })(xs:∀u,Eo ⟨vd,Dl H b Y a u⟩ (o.map HR.av) l x=.ptr b 0)(xp:ConP P vb [.ptr 0 0] [Y] vt ch uW)(xu:∀N K,vt N K->E/\N=r/\K=[a]/\∃d,r=.d d)(xo:uW->∀f,vl (.panic ch) f):DTW P s0 n vl E vd H b Y a o [] T l A r:=λxh F hF t U Q xb xl R J=>by
 have xa:b<H.length:=BV i;have xk:∀u,(Dl H b Y a u).length=H.length:=MT H b Y a;have xm:(Dl H b Y a false)[b]? = some Y:=by simp[Dl,xa]
 have C:=xl x (by rw[M];simp[Op.operands,Call.operands]);rw[xs false]at C;obtain⟨_,bb,xf,xc⟩:=C;let mm:=(Dl H b Y a false).length;let xn:Nat->Value:=λq=>U (Bu [b] mm q);have xd:OwR 0 (Dl H b Y a false).length U t b Y:=xb.hp b Y xm
 have xt:=xp.2 t xn [Q.eval x] xb.ok (λq I z=>by
  cases q with
  |zero=>
   cases z;exact OwR.un (e:=Bu [b] mm) (by rw[xi.1];exact xd) xi.2.2 Nat.zero_lt_one λ_ _=>rfl
  |succ q=>cases z) (λp q a o2 xr xq w=>by
  have:=BV xq;have:=BV w;simp only[List.length_singleton]at *;omega) rfl (λq L z=>by
  match q,z with
  |0,z=>cases z;exact⟨Nat.zero_lt_one,bb,xf,xc⟩
  |q+1,z=>simp at z)
 have g:(execOp Q.eval A).run P t.w=.ok (.enter vb #[Q.eval x]) t.w:=by
  have G:Q.eval (.func vb)=.func (.func vb) #[] #[]:=rfl;simp[execOp,M,resolve,G,Deferred.ofValue,invoke,xp.1]
 unfold Oper.wp;rw[g];refine Calls.mono xt λe O h=>?_;rcases h with⟨v,rfl,c,W,N,K,m,y,S,V⟩ | ⟨rfl,hN,c,rfl,S⟩
 .obtain ⟨X,rfl,rfl,d,rfl⟩:=xu _ _ m
  subst y;obtain⟨xe,s,-⟩:=StI.con (sel:=[b]) (lost:=[]) (hpS:=[Y]) (hp':=[a]) (H1:=(Dl H b Y a false).set b a) ⟨λp K=>AV.avoid_nil _,λj I xj Z=>Ow.avoid_nil _⟩ (λk B=>by cases B) xb ZbK ⟨by rw[xi.1];exact xm,xi.2.2,trivial⟩ V (by show(Dl H b Y a false).set b (a.ren _)=_;rw[xi.2.1]);have xg:(Dl H b Y a false).set b a=Dl H b Y a true:=by simp[Dl]
  simp only[List.length_singleton,List.drop_succ_cons,List.drop_nil,List.drop_zero,List.map_nil,List.append_nil,xg]at s;exact J v c xe X s S
 .obtain ⟨xe, s, -⟩:=StI.con (sel:=[b]) (lost:=[]) (hpS:=[Y]) (hp':=[.dead]) (H1:=(Dl H b Y a false).set b .dead) ⟨λp K=>AV.avoid_nil _, λj I xj Z=>Ow.avoid_nil _⟩ (λk B=>by cases B) xb ZbK ⟨by rw [xi.1]; exact xm, xi.2.2, trivial⟩ S rfl
  exact⟨_,xo hN _,c,xe,rfl,s⟩
theorem KR{s0:An}(id:Nat)(u A:Ow)(c m:Nat)(G:List Nat)(N:List AV)(l:List (List (Nat×Nat)))(J F:List (Nat×AV))(s:P.follows .mixedOrders=true)(B:H[id]? = some u)(K:(∀e,u.ren e=u)/\(∀e,A.ren e=A)/\u.below 1)(L:FrIn vd J)(E:Nat.blt c m=true)(O:Nat.beq vf.length (m+1)=true)(S:((match vf[m]? with | some o=>Bp o | none=>[]).all λk=>decide (k<m))=true)(Q:(OE vf [m] G&&(List.range m).all λj=>G.contains j)=true)
  (steps:DSteps P J H id u A N c (DCall P J H id u A N) 0 (vf.take m) l N) (T:Zp (vf.take m) l N J n=true) (hF:FrIn (Qm (vf.take m) N J) F) (M:List Ow) (i:Dl H id u A true=M) (fin:AWl P s0 n vf.toArray vl (vf.drop m) ⟨F,M⟩):AWp P s0 n (.region b vf.toArray true) vl ⟨vd,H⟩:=KP (E:=True) id u A c m G [] N l J F s B L E ZdX (λ_=>by rw[Nat.eq_of_beq_eq_true O,show m+1-m=1 by omega];simpa using S) ZdJ Q (steps.imp λ_ _ _ ⟨f,x,p,d,C,Y,V,R⟩=>UV (ch:=[]) B K C V R.toP (λI r h=>⟨trivial,h.1.trans Y.symm,h.2,d,Y⟩) λh=>h.elim) T ZbK (by rw[Th];exact hF) M i λ_=>fin
theorem KQ{s0:An}(id:Nat)(B:Ow)(c m:Nat)(o:List Nat)(N:List AV)(l:List (List (Nat×Nat)))(J:List (Nat×AV))(s:P.follows .mixedOrders=true)(E:H[id]? = some B)(k:(∀e,B.ren e=B)/\B.below 1)(G:FrIn vd J)(F:Nat.blt c m=true)(O:Nat.beq vf.length (m+1)=true)(K:(OE vf [m] o&&(List.range m).all λj=>o.contains j)=true)
  (steps:DSteps P J H id B B N c (DCallP P J H id B N vt vO vB) 0 (vf.take m) l N) (T:Zp (vf.take m) l N J n=true) (Y:∀r A,¬vt r A) (L:vB->∀u,vl (.panic vO) u):AWp P s0 n (.region b vf.toArray true) vl ⟨vd,H⟩:=KP (E:=False) id B B c m o [] N l J [] s E G F ZdX (λh=>h.elim) ZdJ K (steps.imp λ_ _ _ ⟨f,x,p,C,Q,M⟩=>UV E ⟨k.1,k.1,k.2⟩ C Q M (λI A h=>absurd h (Y _ _)) L) T ZbK trivial _ rfl λh=>h.elim
end
end Go.Proofs.YtcikkglcoeedlaaGreat
