/- Part 23 of the proof of claimAnswers_holds. No condition. -/
import Derived.Test.YtcikkglcoeedlaaGreatCa22
set_option linter.unusedSimpArgs false
set_option linter.unusedVariables false
set_option maxRecDepth 100000
namespace Go.Proofs.YtcikkglcoeedlaaGreat
variable{vv:AV->List Ow->Prop}{vj:Act}{vH:Array Edge}{vr:Array TypeId}{r:D}{vm:Exit->AS->Prop}{vb:FuncId}{uF:List (List (Nat×Nat))}{vf:List (Nat×AV)}{u:List AV}{l:List Nat}{ve:List Oper}{vJ:List Operand}{H vA:List Ow}{vR:List PanicEntry}{n b T:Nat}{vg:Nat->Value}{va:Oper}{x y:Operand}{vT:Option (Nat×Bool)}{vC:Option Tmp}{P:Program}{vD uV:Prop}{vG:String}{z v:Value}
section
open Go.RowKit
theorem A5h{s:GS}(H:s.Ok)(K:Nat->Value){T sz:Nat}(C:T≠335)(g:0<sz):∃(B:GS) (y:Nat->Value),B.w=s.w.alloc (.cells #[] T)/\y 0=.slice (some ⟨s.w.heap.size,0,none⟩) 0 0/\Aft s K [.row T sz []] [0] B y [.row T sz []]:=by
 obtain⟨B,y,W,x⟩:=SP (s0:=⟨s,λ_=>False,[]⟩) (n:=1) (σ:=⟨[],[]⟩) (ρ:=K) (a:={ tmps:=#[undef],defers:=[] }) (s:=s) (T:=T) (sz:=sz) (arr:=#[]) (cap:=0) (dst:=some 0) ⟨GS.LeX.refl _ s,H,(λt U J=>by cases J),rfl,rfl,(λi o M=>by simp at M),(λi j o l e M=>by simp at M),λi o b M=>by simp at M⟩ C g (by simp[maxLen]) ZbV rfl;have q:=x.fr 0 (.own 0) rfl;refine⟨B,y,W,q.2.symm,(GS.LeX.refl _ s).trans (x.le.le (λb h=>h)),x.ok,x.hp,x.sep,λi o b M F=>.inr ((x.own i o b M F).resolve_left λh=>h),λi M A=>absurd M (λh=>A (by simp at h ⊢;exact h)),Nat.le_refl _⟩
inductive CK
 |q (r:AV)
 |o (k:Nat)
 |t (k:Nat)
def CK.hr:CK->HR
 |.q r=>.av r
 |_=>.av (.d Cs)
def CK.isO(k:Nat):CK->Bool
 |.o j=>Nat.beq j k
 |_=>false
def CK.isT(k:Nat):CK->Bool
 |.t j=>Nat.beq j k
 |_=>false
theorem A0O{c:CK}(h:c.isO n=true):c=.o n:=by
 cases c with
 |o j=>rw[Nat.eq_of_beq_eq_true h]
 |_=>cases h
theorem A0N{c:CK}(h:c.isT n=true):c=.t n:=by
 cases c with
 |t j=>rw[Nat.eq_of_beq_eq_true h]
 |_=>cases h
def atK(M:List CK)(i:Nat)(p:CK->Bool):Bool:=match M[i]? with | some c=>p c | none=>false
def SQ:Op->Option Operand
 |.move x=>some x
 |.assign x=>some x
 |_=>none
def SR:Op->Option (FuncId×Operand×Operand)
 |.call { callee:=.value (.func f),args:=#[x,y],.. }=>some (f,x,y)
 |_=>none
def A6J:Op->Bool
 |.buildSlice _ 0 #[]=>true
 |_=>false
def Ny(L:List Oper)(e:List (Nat×Nat)):Operand->Bool
 |.tmp t=>(e.any λp=>p.1==t)||(L.all λl=>l.dst != some t)
 |_=>true
def OZ(M:List CK)(e:List (Nat×Nat))(a:Option Nat)(k:Nat)(s:Nat->Nat):Operand->Bool
 |.tmp x=>(Nat.beq k 0&&a==some x)||e.any λp=>p.1==x&&((atK M p.2 (CK.isO k))||(Nat.blt 0 k&&p.2==s (k-1)))
 |_=>false
def A5K(L:List Oper)(A:List (List (Nat×Nat)))(M:List CK)(H:List (Nat×AV))(n:Nat)(a:Option Nat)(K:Nat)(s:Nat->Nat):Bool:=
 Nat.beq L.length A.length&&Nat.beq L.length M.length&&(H.all λp=>L.all λl=>l.dst != some p.1)&&((List.range K).all λk=>atK M (s k) (CK.isT k)) &&
 (List.range L.length).all λi=>match L[i]?,A[i]?,M[i]? with
  |some o,some e,some c=>BI o.op&&o.guard.isNone&&((Bu o).all λk=>decide (k<i))&&(e.all λp=>(Bu o).contains p.2&&(match L[p.2]? with |some l=>l.dst==some p.1 |none=>false)) &&
   (match o.dst with | none=>false | some d=>decide (d<n)&&((List.range L.length).all λj=>j==i||(match L[j]? with | some l=>l.dst != some d | none=>true))) &&
   (match c with
    |.q _=>(match a with |some t=>o.dst != some t |none=>true)&&o.op.operands.all (Ny L e)
    |.o k=>Nat.ble k K&&(Nat.beq k 0||(Bu o).contains (s (k-1)))&&(Nat.beq k K||(match L[s k]? with |some l=>(Bu l).contains i |none=>false))&&(match SQ o.op with |some x=>OZ M e a k s x |none=>false)
    |.t k=>Nat.blt k K&&i==s k&&(Nat.beq k 0||(Bu o).contains (s (k-1)))&&(A6J o.op||match SR o.op with |some (_,x,y)=>OZ M e a k s x&&Ny L e y |none=>false))
  |_,_,_=>false
structure ChkC(L:List Oper)(ks:List CK)(n:Nat)(tb:Option Nat)(K:Nat)(tp:Nat->Nat)(i:Nat)(o:Oper)(e:List (Nat×Nat))(c:CK)(d:Nat):Prop where
 ns:BI o.op=true
 gd:o.guard=none
 lt:∀k∈Bu o,k<i
 env:∀p∈e,p.2∈Bu o/\∃o',L[p.2]? = some o'/\o'.dst=some p.1
 dst:o.dst=some d
 dn:d<n
 du:∀(j:Nat) o',L[j]? = some o'->o'.dst=some d->j=i
 kq:∀r,c=.q r->tb≠some d/\∀y∈o.op.operands,Ny L e y=true
 ko:∀k,c=.o k->k<=K/\(k=0\/tp (k-1)∈Bu o)/\(k=K\/∃o',L[tp k]? = some o'/\i∈Bu o')/\∃x,SQ o.op=some x/\OZ ks e tb k tp x=true
 kt:∀k,c=.t k->k<K/\i=tp k/\(k=0\/tp (k-1)∈Bu o)/\(A6J o.op=true\/∃f x y,SR o.op=some (f,x,y)/\OZ ks e tb k tp x=true/\Ny L e y=true)
theorem A45{N:List CK}{t:Option Nat}{s:Nat->Nat}(h:A5K ve uF N vf n t b s=true):ve.length=N.length/\(∀p∈vf,∀l∈ve,l.dst≠some p.1)/\(∀k,k<b->N[s k]? = some (.t k))/\∀(i:Nat) o,ve[i]? = some o->∃e c d,uF[i]? = some e/\N[i]? = some c/\ChkC ve N n t b s i o e c d:=by
 unfold A5K at h;simp only[Bool.and_eq_true]at h;obtain⟨⟨⟨⟨A,B⟩,L⟩,V⟩,m⟩:=h;refine⟨Nat.eq_of_beq_eq_true B,λp G l Q=>by simpa using List.all_eq_true.1 (List.all_eq_true.1 L p G) l Q,λk C=>?_,λi o K=>?_⟩
 .have:=List.all_eq_true.1 V k (List.mem_range.2 C)
  unfold atK at this
  cases I:N[s k]? with
  |none=>rw[I]at this;cases this
  |some c=>rw[I]at this;rw[A0N this]
 .have M:=List.all_eq_true.1 m i (List.mem_range.2 (List.getElem?_eq_some_iff.1 K).1)
  rw[K]at M
  cases X:uF[i]? with
  |none=>rw[X]at M;cases M
  |some e=>
   cases I:N[i]? with
   |none=>rw[X,I]at M;cases M
   |some c=>
    rw[X,I]at M;simp only[Bool.and_eq_true]at M;obtain⟨⟨⟨⟨⟨a,g⟩,q⟩,w⟩,v⟩,H⟩:=M
    cases Z:o.dst with
    |none=>rw[Z]at v;cases v
    |some d=>
     rw[Z]at v;simp only[Bool.and_eq_true,decide_eq_true_eq]at v;refine⟨e,c,d,rfl,rfl,a,by simpa using g,λk C=>by simpa using List.all_eq_true.1 q k C,λp G=>?_,Z,v.1,λj l Q R=>?_,λr F=>?_,λk C=>?_,λk C=>?_⟩
     .have:=List.all_eq_true.1 w p G
      simp only[Bool.and_eq_true]at this;refine⟨by simpa using this.1,?_⟩;have B:=this.2
      cases T:ve[p.2]? with
      |none=>rw[T]at B;cases B
      |some l=>rw[T]at B;exact⟨l,rfl,by simpa using B⟩
     .have:=List.all_eq_true.1 v.2 j (List.mem_range.2 (List.getElem?_eq_some_iff.1 Q).1)
      rw[Q]at this;simpa[R]using this
     .subst F
      simp only[Bool.and_eq_true]at H;exact⟨λJ=>by subst J;simp[Z]at H,λy O=>(Array.all_eq_true'.1 H.2) y O⟩
     .subst C
      simp only[Bool.and_eq_true,Bool.or_eq_true]at H;obtain⟨⟨⟨S,u⟩,W⟩,Y⟩:=H;refine⟨Nat.le_of_ble_eq_true S,u.imp Nat.eq_of_beq_eq_true (λh=>by simpa using h),W.imp Nat.eq_of_beq_eq_true (λh=>?_),?_⟩
      .cases T:ve[s k]? with
       |none=>rw[T]at h;cases h
       |some l=>rw[T]at h;exact⟨l,rfl,by simpa using h⟩
      .cases E:SQ o.op with
       |none=>rw[E]at Y;cases Y
       |some x=>rw[E]at Y;exact⟨x,rfl,Y⟩
     .subst C
      simp only[Bool.and_eq_true,Bool.or_eq_true]at H;obtain⟨⟨⟨S,u⟩,W⟩,Y⟩:=H;refine⟨by rwa [Nat.blt_eq]at S,by simpa using u,W.imp Nat.eq_of_beq_eq_true (λh=>by simpa using h),Y.imp id λY=>?_⟩
      cases E:SR o.op with
      |none=>rw[E]at Y;cases Y
      |some z=>
       obtain⟨f,x,y⟩:=z;rw[E]at Y;simp only[Bool.and_eq_true]at Y;exact⟨f,x,y,rfl,Y.1,Y.2⟩
def Ff(G:List Ow)(id T sz:Nat)(y:List (List D)):List Ow:=G.set id (.row T sz y)
def A4R(P:Program)(H:List (Nat×AV))(G:List Ow)(id T A:Nat)(B:Nat->List (List D))(K:Nat)(a:Option Nat)(s:Nat->Nat)(M:List CK)(n:List (Nat×Nat))(o:Oper):CK->Prop
 |.q r=>(∀j,Quiet P (Ff G id T A (B j)) o (Eu ⟨H,Ff G id T A (B j)⟩ (M.map CK.hr) n) r)\/(0<K/\s (K-1)∈Bu o/\∃x,o.op.operands=#[x]/\OZ M n a K s x=true/\Quiet P (Ff G id T A (B K)) o (λ_=>.own id) r)
 |.o _=>True
 |.t k=>(∃t m b bytes z O d,o.op=.buildSlice t 0 #[]/\Tab P t (.slice T) m b O/\Tab P T d A bytes z/\T≠335/\0<A/\B k=[]/\B (k+1)=[])\/∃f x y c d S,o.op=.call { callee:=.value (.func f),args:=#[x,y],argTypes:=c }/\(∀j,Eu ⟨H,Ff G id T A (B j)⟩ (M.map CK.hr) n y=.d S)/\D.le S d/\Con P f [.own 0,.d d] [.row T A (B k)] [0] (λr u=>r=.own 0/\u=[.row T A (B (k+1))])
def CSteps(P:Program)(H:List (Nat×AV))(G:List Ow)(id T sz:Nat)(y:Nat->List (List D))(K:Nat)(a:Option Nat)(s:Nat->Nat)(M:List CK):List Oper->List (List (Nat×Nat))->List CK->Prop
 |o::L,x::S,c::R=>A4R P H G id T sz y K a s M x o c/\CSteps P H G id T sz y K a s M L S R
 |[],[],[]=>True
 |_,_,_=>False
theorem CSteps.at{P:Program}{H:List (Nat×AV)}{hp:List Ow}{id T sz:Nat}{rows:Nat->List (List D)}{K:Nat}{a:Option Nat}{s:Nat->Nat}{M:List CK}:∀{L:List Oper} {S:List (List (Nat×Nat))} {R:List CK},CSteps P H hp id T sz rows K a s M L S R->∀(i:Nat) o x c,L[i]? = some o->S[i]? = some x->R[i]? = some c->A4R P H hp id T sz rows K a s M x o c
 |[],[],[],_,i,o,x,c,h,_,_=>by simp at h
 |[],[],_::_,h,_,_,_,_,_,_,_=>h.elim
 |[],_::_,R,h,_,_,_,_,_,_,_=>by cases R<;>exact h.elim
 |_::_,[],R,h,_,_,_,_,_,_,_=>by cases R<;>exact h.elim
 |_::_,_::_,[],h,_,_,_,_,_,_,_=>h.elim
 |l::L,F::S,f::R,⟨A,B⟩,0,o,x,c,C,E,I=>by
  simp at C E I;subst C;subst E;subst I;exact A
 |l::L,F::S,f::R,⟨A,B⟩,i+1,o,x,c,C,E,I=>CSteps.at B i o x c ZcF Zei (by simpa using I)
def KI(K id:Nat):List Oper->List CK->List (Nat×AV)->List (Nat×AV)
 |o::L,.q r::M,Y=>match o.dst with |some d=>(d,r)::KI K id L M Y |none=>KI K id L M Y
 |o::L,.o k::M,Y=>match o.dst with |some d=>bif Nat.beq k K then(d,.own id)::KI K id L M Y else KI K id L M Y |none=>KI K id L M Y
 |o::L,.t k::M,Y=>match o.dst with |some d=>bif Nat.beq (k+1) K then(d,.own id)::KI K id L M Y else KI K id L M Y |none=>KI K id L M Y
 |_,_,Y=>Y
theorem UT{K id:Nat}{p:Nat×AV}:∀{L:List Oper} {M:List CK} {Y:List (Nat×AV)},p∈KI K id L M Y->p∈Y\/∃(i:Nat) (o:Oper) (c:CK),L[i]? = some o/\M[i]? = some c/\o.dst=some p.1/\(c=.q p.2\/(p.2=.own id/\(c=.o K\/∃k,c=.t k/\k+1=K)))
 |[],_,Y,h=>.inl (by unfold KI at h;exact h)
 |o::L,[],Y,h=>.inl (by unfold KI at h;exact h)
 |o::L,c::M,Y,h=>by
  have key:p∈KI K id L M Y->p∈Y\/∃(i:Nat) (l:Oper) (f:CK),(o::L)[i]? = some l/\(c::M)[i]? = some f/\l.dst=some p.1/\(f=.q p.2\/(p.2=.own id/\(f=.o K\/∃k,f=.t k/\k+1=K))):=λh=>by
   rcases UT h with h | ⟨i,l,f,h1,h2,h3⟩
   .exact .inl h
   .exact .inr ⟨i+1,l,f,by simpa using h1,by simpa using h2,h3⟩
  cases c with
  |q r=>
   unfold KI at h;split at h
   .rename_i d Z
    rcases List.mem_cons.1 h with rfl | h
    .exact .inr ⟨0,o,_,rfl,rfl,Z,.inl rfl⟩
    .exact key h
   .exact key h
  |o k=>
   unfold KI at h;split at h
   .rename_i d Z
    cases F:Nat.beq k K with
    |true=>
     rw[F]at h;rcases List.mem_cons.1 h with rfl | h
     .exact .inr ⟨0,o,_,rfl,rfl,Z,.inr ⟨rfl,.inl (by rw[Nat.eq_of_beq_eq_true F])⟩⟩
     .exact key h
    |false=>rw[F]at h;exact key h
   .exact key h
  |t k=>
   unfold KI at h;split at h
   .rename_i d Z
    cases F:Nat.beq (k+1) K with
    |true=>
     rw[F]at h;rcases List.mem_cons.1 h with rfl | h
     .exact .inr ⟨0,o,_,rfl,rfl,Z,.inr ⟨rfl,.inr ⟨k,rfl,Nat.eq_of_beq_eq_true F⟩⟩⟩
     .exact key h
    |false=>rw[F]at h;exact key h
   .exact key h
structure CInv(s0:An)(n:Nat)(hp:List Ow)(id T sz:Nat)(rows:Nat->List (List D))(K:Nat)(tb:Option Nat)(tp:Nat->Nat)(L:List Oper)(ks:List CK)(frB:List (Nat×AV))(listed:Array Bool)(a:Act)(j:Nat)(s:GS)(ρ:Nat->Value):Prop where
 st:StI s0 n ⟨[],Ff hp id T sz (rows j)⟩ a s ρ
 jK:j<=K
 hj:∀k,k<K->(listed.getD (tp k) false=true↔k<j)
 closed:∀i o,L[i]? = some o->listed.getD i false=true->∀e∈Bu o,listed.getD e false=true
 hq:∀i o d r,L[i]? = some o->o.dst=some d->ks[i]? = some (.q r)->listed.getD i false=true->AVr hp.length ρ s r (a.tmps.getD d undef)
 hb:∀p∈frB,AVr hp.length ρ s p.2 (a.tmps.getD p.1 undef)
 h0:∀t,tb=some t->j=0->a.tmps.getD t undef=ρ id
 ho:∀i o d c,L[i]? = some o->o.dst=some d->ks[i]? = some c->listed.getD i false=true->(c=.o j\/∃k,c=.t k/\j=k+1)->a.tmps.getD d undef=ρ id
theorem Io{v:Value}(h:n<vj.tmps.size):(vj.put (some n) v).tmps.getD n undef=v:=by
 simp[Act.put,h]
theorem Ep{v:Value}(h:b≠n):(vj.put (some n) v).tmps.getD b undef=vj.tmps.getD b undef:=by
 rw[Array.getD_eq_getD_getElem?,Array.getD_eq_getD_getElem?];simp[Act.put,Array.getElem?_setIfInBounds_ne (λe=>h e.symm:n≠b)]
theorem StI.bare{s0:An}{d:AS}{s:GS}(h:StI s0 n d vj s vg):StI s0 n ⟨[],d.hp⟩ vj s vg:=⟨h.le,h.ok,(λt U J=>by cases J),h.sz,h.df,h.hp,h.sep,h.own⟩
theorem UG(G:List Ow)(id T sz:Nat)(r:List (List D)):(Ff G id T sz r).length=G.length:=by simp[Ff]
theorem A3H{id T sz:Nat}{r:List (List D)}(h:id<H.length):(Ff H id T sz r)[id]? = some (.row T sz r):=by simp[Ff,h]
theorem MQ:∀{F:List (Nat×AV)} {p:Nat×AV},p∈F->(∀q∈F,q.1=p.1->q=p)->BV F p.1=some p.2
 |(a,v)::r,p,h,L=>by
  unfold BV
  cases A:Nat.beq a p.1 with
  |true=>
   have:=L (a,v) List.mem_cons_self (Nat.eq_of_beq_eq_true A);rw[<-this];rfl
  |false=>
   rcases List.mem_cons.1 h with rfl | h
   .rw [Nat.beq_refl]at A;cases A
   .exact MQ h λq w=>L q (List.mem_cons_of_mem _ w)
def Hm(L:List Oper)(M:List CK)(H:List (Nat×AV))(listed:Array Bool):List (Nat×AV):=
 ((List.range L.length).flatMap λi=>match L[i]?,M[i]? with
  |some o,some (CK.q r)=>match o.dst with
   |some d=>if listed.getD i false=true then[(d,r)]else[]
   |none=>[]
  |_,_=>[])++H
theorem DD{L:List Oper}{F:List CK}{listed:Array Bool}{p:Nat×AV}:p∈Hm L F vf listed↔(∃i o,L[i]? = some o/\F[i]? = some (.q p.2)/\o.dst=some p.1/\listed.getD i false=true)\/p∈vf:=by
 unfold Hm;rw[List.mem_append,List.mem_flatMap];refine or_congr ⟨λ⟨i,M,h⟩=>?_,λ⟨i,o,A,B,C,V⟩=>⟨i,List.mem_range.2 (List.getElem?_eq_some_iff.1 A).1,?_⟩⟩ Iff.rfl
 .cases E:L[i]? with
  |none=>rw[E]at h;simp at h
  |some o=>
   cases I:F[i]? with
   |none=>rw[E,I]at h;simp at h
   |some c=>
    rw[E,I]at h
    cases c with
    |q r=>
     cases Z:o.dst with
     |none=>simp[Z]at h
     |some d=>
      simp only[Z]at h;split at h
      .rename_i K
       have:=List.mem_singleton.1 h;subst this;exact⟨i,o,E,I,Z,K⟩
      .cases h
    |o k=>simp at h
    |t k=>simp at h
 .rw [A,B]
  simp only[C];rw[if_pos V];exact List.mem_singleton.2 rfl
def FrIn(Y:List (Nat×AV)):List (Nat×AV)->Prop
 |[]=>True
 |p::r=>BV Y p.1=some p.2/\FrIn Y r
theorem FrIn.mem{Y:List (Nat×AV)}:∀{F:List (Nat×AV)},FrIn Y F->∀p∈F,BV Y p.1=some p.2
 |[],_,p,h=>by cases h
 |q::r,⟨A,B⟩,p,h=>by
  rcases List.mem_cons.1 h with rfl | h
  .exact A
  .exact FrIn.mem B p h
theorem Eq{s0:An}(id T sz:Nat)(xc:Nat->List (List D))(K:Nat)(tb:Option Nat)(tp:Nat->Nat)(ks:List CK)(es:List (List (Nat×Nat)))(xj F:List (Nat×AV))(hm:P.follows .mixedOrders=true)(xq:H[id]? = some (.row T sz (xc 0)))(yj:FrIn vf xj)(yC:∀t,tb=some t->BV vf t=some (.own id))
  (steps:CSteps P xj H id T sz xc K tb tp ks ve es ks) (xd:A5K ve es ks xj n tb K tp=true) (xr:((xj.all λp=>p.2.avoid [id])&&ks.all λc=>c.hr.val.avoid [id])=true) (xn:AvoidR [id] [id] 0 H) (hF:FrIn (KI K id ve ks xj) F) (M:List Ow) (hM:Ff H id T sz (xc K)=M) (fin:vm .normal ⟨F,M⟩):AWp P s0 n (.region b ve.toArray true) vm ⟨vf,H⟩:=by
 refine⟨λa w ⟨s,W,hw,xb⟩=>?_⟩;subst hw;subst hM;have yn:=yj.mem;obtain⟨yE,xz,yw,xS⟩:=A45 xd;simp only[Bool.and_eq_true]at xr;have xE:id<H.length:=Ca xq;have xX:∀r,(Ff H id T sz r)[id]? = some (.row T sz r):=λr=>A3H xE;have xZ:∀r,(Ff H id T sz r).length=H.length:=UG H id T sz;have xR:∀r r',(Ff H id T sz r).set id (.row T sz r')=Ff H id T sz r':=λr r'=>by simp[Ff]
 have xv:∀j,(Array.replicate ve.toArray.size false).getD j false=false:=λj=>by
  rcases Nat.lt_or_ge j ve.length with h | h
  .simp [h]
  .simp [h]
 have yo:Ff H id T sz (xc 0)=H:=by
  unfold Ff;apply List.ext_getElem?;intro i;rw[List.getElem?_set];split
  .rename_i h;subst h;exact xq.symm
  .rfl
 have yq:StI s0 n ⟨vf,H⟩ a s.dr W:=xb.put (IF s) (dst:=none) (λd Z=>by cases Z) (v:=undef) (r:=.d Cs) trivial;refine wp_region_any hm (Mx (λxf a' Q=>∃j s' xi,s'.w=Q/\CInv s0 n H id T sz xc K tb tp ve ks xj xf a' j s' xi) ?_ ?_ _ _ a s.w.drew ZbV ?_ ⟨0,s.dr,W,rfl,by rw[yo];exact yq.bare,Nat.zero_le _,(λk _=>⟨λh=>absurd (h.symm.trans (xv _)) ZbN,λh=>absurd h (Nat.not_lt_zero k)⟩),(λi o _ h=>absurd (h.symm.trans (xv _)) ZbN),(λi o d r _ _ _ h=>absurd (h.symm.trans (xv _)) ZbN),(λp xa=>yq.fr _ _ (yn p xa)),(λt J _=>(yq.fr _ _ (yC t J)).2),λi o d c _ _ _ h=>absurd (h.symm.trans (xv _)) ZbN⟩)
 .rintro xf a' _ i xh ⟨j,s1,xD,rfl,xg⟩ O
  have xh:xf.size=ve.length:=by simpa using xh
  obtain⟨_,o,ho,_⟩:=mem_ready.1 O;have ho:ve[i]? = some o:=by simpa using ho
  obtain⟨xt,xs⟩:=(CY xh ho).1 O;obtain⟨e,c,d,X,I,ck⟩:=xS i o ho;have ye:i<xf.size:=by rw[xh];exact(List.getElem?_eq_some_iff.1 ho).1
  have xB:=steps.at i o e c ho X I;have xV:ve.toArray[i]? = some o:=by simpa using ho
  have xW:d<a'.tmps.size:=by rw[xg.st.sz];exact ck.dn
  have xC:∀k,(xf.setIfInBounds i true).getD k false=true↔k=i\/xf.getD k false=true:=λk=>by
   by_cases E:k=i
   .subst E;simp[ye]
   .rw [getD_set_ne false (λe=>E e.symm)]
    exact⟨.inr,λh=>h.resolve_left E⟩
  have yt:∀i' o',ve[i']? = some o'->(xf.setIfInBounds i true).getD i' false=true->∀e∈Bu o',(xf.setIfInBounds i true).getD e false=true:=λi' o' xl L e' xG=>by
   rw[xC]at L ⊢;rcases L with rfl | L
   .obtain rfl:o'=o:=Option.some.inj (xl.symm.trans ho)
    exact .inr (xs e' xG)
   .exact .inr (xg.closed i' o' xl L e' xG)
  have xk:∀i' o' d',ve[i']? = some o'->o'.dst=some d'->xf.getD i' false=true->d'≠d:=λi' o' d' xl xm L e'=>by
   subst e';have:=ck.du i' o' xl xm;subst this;rw[xt]at L;cases L
  have ys:∀p∈xj,p.1≠d:=λp xa e'=>xz p xa o (List.mem_of_getElem? ho) (by rw[e'];exact ck.dst)
  have yr:∀(R:Act->World->Prop),o.wp P a' s1.w (λyb xx=>R yb xx) (FE s0 n vm)->wpOp P ve.toArray (FE s0 n vm) i (λyb xx=>R yb xx) a' s1.w:=λR h=>by
   unfold wpOp;rw[xV];show if Region.wanted o (yielded ve.toArray a'.tmps)=true then _ else _
   exact ZhP
  have yc:∀y,Ny ve e y=true->AVr H.length xD s1 (Eu ⟨xj,Ff H id T sz (xc j)⟩ (ks.map CK.hr) e y) (a'.eval y):=λy S=>by
   cases y with
   |tmp t=>
    show AVr _ xD s1 (match e.find? (λp=>p.1==t)with
     |some p=>match (ks.map CK.hr)[p.2]? with
      |some h=>h.val
      |none=>.d Cs
     |none=>(BV xj t).getD (.d Cs)) (a'.tmps.getD t undef)
    cases yu:e.find? (λp=>p.1==t)with
    |some p=>
     have xa:p∈e:=List.mem_of_find?_eq_some yu;have xU:p.1=t:=by simpa using List.find?_some yu
     simp only;rw[List.getElem?_map]
     cases yg:ks[p.2]? with
     |none=>trivial
     |some c'=>
      cases c' with
      |q r=>
       obtain⟨ya,o',xl,xm⟩:=ck.env p xa;have:=xg.hq p.2 o' p.1 r xl xm yg (xs _ ya);rwa [xU]at this
      |o k=>trivial
      |t k=>trivial
    |none=>
     simp only
     cases L:BV xj t with
     |none=>trivial
     |some av=>exact xg.hb (t,av) (En L)
   |const v=>exact ZiU
   |global A=>trivial
   |func f=>exact ZiV
  have yz:∀k x,j=k->OZ ks e tb k tp x=true->a'.eval x=xD id:=λk x yp G=>by
   subst yp
   cases x with
   |tmp t=>
    show a'.tmps.getD t undef=xD id;simp only[OZ,Bool.or_eq_true,Bool.and_eq_true]at G;rcases G with⟨B,C⟩ | h
    .exact xg.h0 t ZcF (Nat.eq_of_beq_eq_true B)
    .obtain ⟨p,xa,B⟩:=List.any_eq_true.1 h
     simp only[Bool.and_eq_true,Bool.or_eq_true]at B;obtain⟨B,C⟩:=B;have xU:p.1=t:=Zih
     obtain⟨ya,o',xl,xm⟩:=ck.env p xa;rcases C with C | ⟨C,N⟩
     .unfold atK at C
      cases yg:ks[p.2]? with
      |none=>rw[yg]at C;cases C
      |some c'=>
       rw[yg]at C;have:=xg.ho p.2 o' p.1 c' xl xm yg (xs _ ya) (.inl (A0O C));rwa [xU]at this
     .have N:p.2=tp (j-1):=by simpa using N
      have C:0<j:=by rwa [Nat.blt_eq]at C
      have E:j-1<K:=by have:=xg.jK;omega
      have:=xg.ho p.2 o' p.1 _ xl xm (by rw[N];exact yw _ E) (xs _ ya) (.inr ⟨j-1,rfl,by omega⟩);rwa [xU]at this
   |const v=>cases G
   |global A=>cases G
   |func f=>cases G
  have yH:∀k,(k=0\/tp (k-1)∈Bu o)->k<=K->k<=j:=λk h E=>by
   rcases h with rfl | h
   .exact Nat.zero_le _
   .rcases Nat.eq_zero_or_pos k with rfl | u
    .exact Nat.zero_le _
    .have:=(xg.hj (k-1) ZbK).1 (xs _ h)
     omega
  have keep:∀(v:Value) (s2:GS) (c0:CK),c=c0->GS.Le s1 s2->(∀r,c0=.q r->AVr H.length xD s2 r v)->(∀k,c0=.o k->k=j/\v=xD id)->(∀k,c0≠.t k)->CInv s0 n H id T sz xc K tb tp ve ks xj (xf.setIfInBounds i true) (a'.put o.dst v) j s2 xD:=λv s2 c0 xP xo xA yF yB=>by
   subst xP;have B:=xg.st.put xo (dst:=o.dst) (λd' xm=>by rw[ck.dst]at xm;cases xm;exact ck.dn) (v:=v) (r:=.d Cs) trivial;rw[ck.dst]at B ⊢;refine⟨B.bare,xg.jK,λk E=>?_,yt,λi' o' d' r xl xm xH L=>?_,λp xa=>?_,λyL yI h=>?_,λi' o' d' c' xl xm xH L xO=>?_⟩
   .rw [xC]
    refine⟨λh=>h.elim (λe'=>?_) (xg.hj k E).1,λh=>.inr ((xg.hj k E).2 h)⟩;have:=yw k E;rw[e',I]at this;exact absurd (Option.some.inj this) (yB k)
   .rw [xC]at L
    rcases L with rfl | L
    .obtain rfl:o'=o:=Option.some.inj (xl.symm.trans ho)
     obtain rfl:d'=d:=Option.some.inj (xm.symm.trans ck.dst);rw[Io xW];exact xA r (Option.some.inj (I.symm.trans xH))
    .rw [Ep (xk i' o' d' xl xm L)]
     exact(xg.hq i' o' d' r xl xm xH L).chg xo.chg
   .rw [Ep (ys p xa)]
    exact(xg.hb p xa).chg xo.chg
   .by_cases yJ:yL=d
    .subst yJ
     rw[Io xW]
     cases c with
     |q r=>exact absurd yI (ck.kq r rfl).1
     |o k=>exact(yF k rfl).2
     |t k=>exact absurd rfl (yB k)
    .rw [Ep yJ]
     exact xg.h0 yL yI h
   .rw [xC]at L
    rcases L with rfl | L
    .obtain rfl:o'=o:=Option.some.inj (xl.symm.trans ho)
     obtain rfl:d'=d:=Option.some.inj (xm.symm.trans ck.dst);obtain rfl:c'=c:=Option.some.inj (xH.symm.trans I);rw[Io xW];rcases xO with rfl | ⟨k,rfl,_⟩
     .exact (yF j rfl).2
     .exact absurd rfl (yB k)
    .rw [Ep (xk i' o' d' xl xm L)]
     exact xg.ho i' o' d' c' xl xm xH L xO
  cases c with
  |q r=>
   have hq:RegG.OpStep P o a'.eval s1 (λv s2=>GS.Le s1 s2/\AVr H.length xD s2 r v):=by
    rcases xB with xB | ⟨hK0,hmem,x,hops,hsr,hqt⟩
    .have hq:=(xB j).run 0 s1 xD a'.eval xg.st.ok (Nat.zero_le _) xg.st.hp (λy S=>by rw [xZ]; exact yc y ((ck.kq r rfl).2 y S))
     rw[xZ]at hq;exact hq
    .have B:=(xg.hj (K-1) ZbK).1 (xs _ hmem)
     have C:=xg.jK;obtain rfl:j=K:=by omega
     have hv:=yz j x rfl hsr
     have hq:=hqt.run 0 s1 xD a'.eval xg.st.ok (Nat.zero_le _) xg.st.hp (λy S=>by
      rw[hops]at S;obtain rfl:y=x:=by simpa using S
      rw[xZ];exact⟨xE,hv⟩)
     rw[xZ]at hq;exact hq
   exact yr _ (RegG.opStep_wp ck.ns (λ_ _=>rfl) hq λv s2 ⟨B,C⟩=>⟨j,s2,xD,rfl,keep v s2 _ rfl B (λr' xK=>by cases xK;exact C) (λk E=>by cases E) λk E=>by cases E⟩)
  |o k=>
   obtain⟨B,C,N,x,G,xI⟩:=ck.ko k rfl
   have yp:j=k:=by
    have V:=yH k C B;have h5:=xg.jK;rcases N with rfl | ⟨o',xl,h6⟩
    .omega
    .by_cases yO:k<j
     .have:=xg.closed _ o' xl ((xg.hj k ZbK).2 yO) i h6
      rw[xt]at this;cases this
     .omega
   have hv:=yz k x yp xI
   have xp:(execOp a'.eval o).run P s1.w=.ok (.value (a'.eval x)) s1.w:=by
    cases xe:o.op<;>rw[xe]at G<;>simp[SQ]at G
    .subst G;simp[execOp,xe]
    .subst G;simp[execOp,xe]
   refine yr _ ?_;unfold Oper.wp;rw[xp];exact⟨j,s1,xD,rfl,keep _ s1 _ rfl (GS.Le.refl _) (λr Y=>by cases Y) (λk' xw=>by cases xw;exact⟨yp.symm,hv⟩) λk' xw=>by cases xw⟩
  |t k=>
   obtain⟨yD,yy,xL,G⟩:=ck.kt k rfl
   have yp:j=k:=by
    have V:=yH k xL ZbK
    have h5:¬k<j:=λh=>by
     have:=(xg.hj k yD).2 h;rw[<-yy,xt]at this;cases this
    omega
   subst yp;let m:=(Ff H id T sz (xc j)).length;let ym:Nat->Value:=λq=>xD (BG [id] m q);have xJ:=xg.st.hp id _ (xX (xc j))
   have yP:RegG.OpStep P o a'.eval s1 (λv s'=>∃(xi:Nat->Value) (r:AV) (xa:List Ow),(r=.own 0/\xa=[.row T sz (xc (j+1))])/\AVr xa.length xi s' r v/\Aft s1 ym [.row T sz (xc j)] [0] s' xi xa):=by
    rcases xB with⟨t,m',A,bytes,z,z',dd,xe,J,hT,xT,u,yG,yf⟩ | ⟨f',x',y',tys,d1,d2,xe,hyd,hled,hcon⟩
    .obtain ⟨s',xi,hw,hv,yM⟩:=A5h (sz:=sz) xg.st.ok ym xT u
     have xp:(execOp a'.eval o).run P s1.w=.ok (.value (.slice (some ⟨s1.w.heap.size,0,none⟩) 0 0)) (s1.w.alloc (.cells #[] T)):=by
      have U:∀arr,(newRow T arr).run P s1.w=.ok ⟨s1.w.heap.size,0,none⟩ (s1.w.alloc (.cells arr T)):=λ_=>rfl;simp[execOp,xe,Instr.buildSlice,run_underlying J.und,hT.run_size,Instr.fill,U];exact Zic
     unfold RegG.OpStep;rw[xp];exact⟨s',hw,xi,.own 0,_,⟨rfl,by rw[yf]⟩,⟨by simp,hv.symm⟩,by rw[yG];exact yM⟩
    .rcases G with G | ⟨f,x,y,hcall,G,S⟩
     .rw [xe]at G
      cases G
     rw[xe]at hcall
     obtain⟨rfl,rfl,rfl⟩:f'=f/\x'=x/\y'=y:=by
      have:=Option.some.inj hcall;simp only[Prod.mk.injEq]at this;exact this
     have yl:=yz j x' rfl G;have yK:=yc y' S;rw[hyd j]at yK
     have yx:=hcon.2 s1 ym [xD id,a'.eval y'] xg.st.ok (λq o' hq=>by
      cases q with
      |zero=>
       cases hq;unfold OwR at xJ ⊢;exact xJ
      |succ q=>cases hq) (λp q o1 o2 yv yh xA=>by
      have:=Ca yh;have:=Ca xA;simp only[List.length_singleton]at *;omega) rfl (λq av hq=>by
      match q,hq with
      |0,hq=>cases hq;exact⟨Nat.zero_lt_one,rfl⟩
      |1,hq=>cases hq;exact hled s1 _ yK
      |q+2,hq=>simp at hq)
     have xp:(execOp a'.eval o).run P s1.w=.ok (.enter f' #[xD id,a'.eval y']) s1.w:=by
      have l:a'.eval (.func f')=.func (.func f') #[] #[]:=rfl;simp[execOp,xe,resolve,l,yl,Deferred.ofValue,invoke,hcon.1]
     unfold RegG.OpStep;rw[xp];exact yx.mono λe Q ⟨v,X,s',xi,r,xa,h5,h6,h7,h8⟩=>⟨v,X,s',h6,xi,r,xa,h5,h7,h8⟩
   refine yr _ (RegG.opStep_wp ck.ns (λ_ _=>rfl) yP ?_)
   .rintro v s' ⟨xi,r,xa,⟨rfl,rfl⟩,h6,h7⟩
    have yA:StI s0 n ⟨Hm ve ks xj xf,Ff H id T sz (xc j)⟩ a' s1 xD:=⟨xg.st.le,xg.st.ok,λt av J=>by
     rw[show(⟨Hm ve ks xj xf,Ff H id T sz (xc j)⟩:AS).hp.length=H.length from xZ _];rcases DD.1 (En J)with⟨i',o',g1,g2,g3,g4⟩ | g
     .exact xg.hq i' o' t av g1 g3 g2 g4
     .exact xg.hb _ g,xg.st.sz,xg.st.df,xg.st.hp,xg.st.sep,xg.st.own⟩
    obtain⟨xM,xu,xF⟩:=StI.con (sel:=[id]) (lost:=[0]) (hpS:=[.row T sz (xc j)]) (hp':=[.row T sz (xc (j+1))]) (H1:=(Ff H id T sz (xc j)).set id (.row T sz (xc (j+1)))) ⟨λp xa=>by
     rcases DD.1 xa with⟨i',o',g1,g2,g3,g4⟩ | g
     .exact List.all_eq_true.1 xr.2 _ (List.mem_of_getElem? g2)
     .exact List.all_eq_true.1 xr.1 _ g,λi' o' xQ xl=>by
     refine AvoidR.get xn i' o' (by simpa using xQ) ?_;have xl:(Ff H id T sz (xc j))[i']? = some o':=xl;rwa [Ff,List.getElem?_set_ne (λe=>xQ (by rw[e];exact List.mem_singleton.2 rfl))]at xl⟩ (λk E=>by rw[List.mem_singleton.1 E];exact Nat.zero_lt_one) yA ZbV ⟨xX (xc j),trivial,trivial⟩ h7 rfl
    simp only[List.length_singleton,List.drop_succ_cons,List.drop_nil,List.drop_zero,List.map_nil,List.append_nil,xR]at xu xF;have hv:v=xM id:=(xF _ v h6).2
    have yd:∀(p:Nat×AV),p∈Hm ve ks xj xf->AVr H.length xM s' p.2 (a'.tmps.getD p.1 undef):=λp xa=>by
     have:=xu.fr p.1 p.2 (MQ xa λq hq l=>by
      rcases DD.1 xa with⟨i1,o1,g1,g2,g3,g4⟩ | g<;>rcases DD.1 hq with⟨i2,o2,k1,k2,k3,k4⟩ | k0
      .rw [l]at k3
       obtain⟨_,_,d3,_,_,yk⟩:=xS i1 o1 g1;obtain rfl:d3=p.1:=Option.some.inj (yk.dst.symm.trans g3);obtain rfl:=yk.du i2 o2 k1 k3;rw[g2]at k2;have:=Option.some.inj k2;simp only[CK.q.injEq]at this;exact Prod.ext l this.symm
      .exact absurd (g3.trans (congrArg some l.symm)) (xz q k0 o1 (List.mem_of_getElem? g1))
      .exact absurd (k3.trans (congrArg some l)) (xz p g o2 (List.mem_of_getElem? k1))
      .have B:=yn p g
       have C:=yn q k0;rw[l,B]at C;exact Prod.ext l (Option.some.inj C).symm)
     rwa [show(⟨Hm ve ks xj xf,Ff H id T sz (xc (j+1))⟩:AS).hp.length=H.length from xZ _]at this
    refine⟨j+1,s',xM,rfl,?_⟩;have B:=xu.put (GS.Le.refl s') (dst:=o.dst) (λd' xm=>by rw[ck.dst]at xm;cases xm;exact ck.dn) (v:=v) (r:=.d Cs) trivial;rw[ck.dst]at B ⊢;refine⟨B.bare,yD,λk E=>?_,yt,λi' o' d' r xl xm xH L=>?_,λp xa=>?_,λ_ _ h=>absurd h (Nat.succ_ne_zero _),λi' o' d' c' xl xm xH L xO=>?_⟩
    .rw [xC,xg.hj k E]
     refine⟨λh=>?_,λh=>?_⟩
     .rcases h with h | h
      .have B:=yw k E
       rw[h,I]at B;have C:=Option.some.inj B;simp only[CK.t.injEq]at C;omega
      .omega
     .rcases Nat.lt_succ_iff_lt_or_eq.1 h with h | h
      .exact .inr h
      .exact .inl (by rw[h];exact yy.symm)
    .rw [xC]at L
     rcases L with rfl | L
     .rw [I]at xH
      cases xH
     .rw [Ep (xk i' o' d' xl xm L)]
      exact yd (d',r) (DD.2 (.inl ⟨i',o',xl,xH,xm,L⟩))
    .rw [Ep (ys p xa)]
     exact yd p (DD.2 (.inr xa))
    .rw [xC]at L
     rcases L with rfl | L
     .obtain rfl:o'=o:=Option.some.inj (xl.symm.trans ho)
      obtain rfl:d'=d:=Option.some.inj (xm.symm.trans ck.dst);rw[Io xW];exact hv
     .obtain ⟨e3,c3,d3,xY,yi,yk⟩:=xS i' o' xl
      obtain rfl:c3=c':=Option.some.inj (yi.symm.trans xH)
      have xN:xf.getD (tp j) false≠true:=λh=>by
       rw[<-yy,xt]at h;cases h
      rcases xO with rfl | ⟨k',rfl,xw⟩
      .obtain ⟨_,q2,_,_⟩:=yk.ko _ rfl
       rcases q2 with q2 | q2
       .cases q2
       .exact absurd (xg.closed i' o' xl L _ q2) xN
      .obtain ⟨_,q2,_⟩:=yk.kt _ rfl
       obtain rfl:k'=j:=by omega
       rw[q2]at L;exact absurd L xN
 .rintro xf a' _ xh ⟨j,s1,xD,rfl,xg⟩ u
  have xh:xf.size=ve.length:=by simpa using xh
  have xy:∀i,i<ve.length->xf.getD i false=true:=by
   intro i
   induction i using Nat.strongRecOn with
   |_ i ih=>
    intro O;have ho:ve[i]? = some ve[i]:=List.getElem?_eq_getElem O;obtain⟨e,c,d,X,I,ck⟩:=xS i _ ho
    cases hg:xf.getD i false with
    |true=>rfl
    |false=>
     have:i∈Region.ready .any ve.toArray xf:=(CY xh ho).2 ⟨hg,λk E=>ih k (ck.lt k E) (by have:=ck.lt k E;omega)⟩;exact ZhU
  have yN:j=K:=by
   have B:=xg.jK;rcases Nat.eq_zero_or_pos K with C | C
   .omega
   .have N:=yw (K-1) ZbK
    have V:=(xg.hj (K-1) ZbK).1 (xy _ (by rw[yE];exact(List.getElem?_eq_some_iff.1 N).1));omega
  subst yN;refine⟨_,fin,s1,xD,rfl,xg.st.le,xg.st.ok,λt av J=>?_,xg.st.sz,xg.st.df,xg.st.hp,xg.st.sep,xg.st.own⟩;rw[show(⟨F,Ff H id T sz (xc j)⟩:AS).hp.length=H.length from xZ _];rcases UT (En (hF.mem _ (En J)))with h | ⟨i,o,c,B,C,N,V⟩
  .exact xg.hb _ h
  .have L:=xy i (List.getElem?_eq_some_iff.1 B).1
   rcases V with rfl | ⟨V,h5⟩
   .exact xg.hq i o t av B N C L
   .replace V:av=.own id:=V
    subst V;refine⟨xE,xg.ho i o t c B N C L ?_⟩;rcases h5 with h5 | ⟨k,h5,h6⟩
    .exact .inl h5
    .exact .inr ⟨k,h5,h6.symm⟩
 .rw [Array.count_replicate]
  simp
section
variable {P:Program} {frB:List (Nat×AV)} {hp:List Ow} {id T sz:Nat} {rows:Nat->List (List D)} {K:Nat} {tb:Option Nat} {tp:Nat->Nat} {ks:List CK} {es:List (Nat×Nat)} {o:Oper} {L:List Oper} {S:List (List (Nat×Nat))} {R:List CK}
theorem CSteps.q{r:AV}(h:∀j,Quiet P (Ff hp id T sz (rows j)) o (Eu ⟨frB,Ff hp id T sz (rows j)⟩ (ks.map CK.hr) es) r)(f:CSteps P frB hp id T sz rows K tb tp ks L S R):CSteps P frB hp id T sz rows K tb tp ks (o::L) (es::S) (.q r::R):=⟨.inl h,f⟩
theorem CSteps.s{k:Nat}(f:CSteps P frB hp id T sz rows K tb tp ks L S R):CSteps P frB hp id T sz rows K tb tp ks (o::L) (es::S) (.o k::R):=⟨trivial,f⟩
theorem CSteps.t{k:Nat}{dd:Option Tmp}{ty:TypeId}{ps:String}{af:Array Edge}{gd:Option (Nat×Bool)}{f:FuncId}(I:Con P f [.own 0,.d r] [.row T sz (rows k)] [0] (λA u=>A=.own 0/\u=[.row T sz (rows (k+1))]))(O:∀j,Eu ⟨frB,Ff hp id T sz (rows j)⟩ (ks.map CK.hr) es y=.d r)(B:CSteps P frB hp id T sz rows K tb tp ks L S R):CSteps P frB hp id T sz rows K tb tp ks (⟨dd,.call { callee:=.value (.func f),args:=#[x,y],argTypes:=vr },ty,ps,af,gd⟩::L) (es::S) (.t k::R):=⟨.inr ⟨f,x,y,vr,r,r,rfl,O,D.le.refl _,I⟩,B⟩
theorem CSteps.m{k:Nat}{ty:TypeId}{t m b bytes:Nat}{d:TypeDesc}(J:Tab P t (.slice T) m b v)(h:Tab P T d sz bytes z)(X:Nat.beq T 335=false)(g:Nat.blt 0 sz=true)(A:rows k=[])(B:rows (k+1)=[])(f:CSteps P frB hp id T sz rows K tb tp ks L S R):CSteps P frB hp id T sz rows K tb tp ks (⟨vC,.buildSlice t 0 #[],ty,vG,vH,vT⟩::L) (es::S) (.t k::R):=⟨.inl ⟨t,m,b,bytes,z,v,d,rfl,J,h,Nat.ne_of_beq_eq_false X,by simpa[Nat.blt_eq]using g,A,B⟩,f⟩
theorem CSteps.nil:CSteps P frB hp id T sz rows K tb tp ks [] [] []:=trivial
theorem Ed{r:AV}(f:CSteps P frB hp id T sz rows K tb tp ks L S R)(h:∀j,Quiet P (Ff hp id T sz (rows j)) o (Eu ⟨frB,Ff hp id T sz (rows j)⟩ (ks.map CK.hr) es) r:=by intro _;first | exact AZ (ah rfl) | exact Dm (ah rfl) | exact Bt (ah rfl) (Aa rfl) rfl (Aa rfl) rfl rfl | exact Bd | exact AL | exact HA rfl (ah rfl) (Aa rfl) (Aa rfl) rfl Zcy Zcy | exact JX (ah rfl) (ah rfl) (Aa rfl) (Aa rfl) Zcy | exact A2E (ah rfl) (Aa rfl) rfl (Aa rfl) rfl rfl | exact QE (ah rfl) (Aa rfl) rfl rfl | exact Gr (ah rfl) (Aa rfl) rfl rfl | exact TI (ah rfl) (Aa rfl) rfl (XL Zcy) | exact TI (ah rfl) (Aa rfl) rfl (XK Zcy)):CSteps P frB hp id T sz rows K tb tp ks (o::L) (es::S) (.q r::R):=CSteps.q h f
theorem Mw{k:Nat}{B:TypeId}(I:Con P vb [.own 0,.d r] [.row T sz (rows k)] [0] (λA u=>A=.own 0/\u=[.row T sz (rows (k+1))]))(f:CSteps P frB hp id T sz rows K tb tp ks L S R)(O:∀j,Eu ⟨frB,Ff hp id T sz (rows j)⟩ (ks.map CK.hr) es y=.d r:=by intro _;rfl):CSteps P frB hp id T sz rows K tb tp ks (⟨vC,.call { callee:=.value (.func vb),args:=#[x,y],argTypes:=vr },B,vG,vH,vT⟩::L) (es::S) (.t k::R):=CSteps.t I O f
end
theorem A0Q{s0:An}{c:Code}(T A:Nat)(h:Nat.beq T 335=false)(g:Nat.blt 0 A=true)(f:Fy H (.row T A [])=some vA)(k:AWp P s0 n c vm ⟨vf,vA⟩):AWp P s0 n c vm ⟨vf,H⟩:=by
 rw[EF f]at k;refine⟨λa w ⟨s,W,B,x⟩=>?_⟩
 have := x.new (GS.Le.refl s) (dst := none) (v := undef) (u := .slice none 0 0) (r := .d Cs) (ow := .row T A []) (fun d Z => by cases Z) trivial
  ⟨[],by simp only[if_pos];exact⟨by simp,.inl ⟨rfl,rfl⟩⟩,Nat.ne_of_beq_eq_false h,by simpa[Nat.blt_eq]using g,λb F=>by simp[Dg]at F,λk C=>absurd C (Nat.not_lt_zero k)⟩ (λb F=>by cases F)
 exact k.run a w ⟨s,_,B,this⟩
def wipe(W:List Nat):List (Nat×AV)->List (Nat×AV)
 |[]=>[]
 |p::r=>(bif p.2.avoid W then p else(p.1,.d Cs))::wipe W r
theorem Mz{W:List Nat}{t:Nat}{U:AV}:∀{Y:List (Nat×AV)},BV (wipe W Y) t=some U->U=.d Cs\/BV Y t=some U
 |[],h=>by cases h
 |(u,x)::r,h=>by
  unfold wipe at h;rw[CD]
  cases F:x.avoid W with
  |true=>
   simp only[F,cond_true]at h;rw[CD]at h;split
   .rename_i e;rw[if_pos e]at h;exact .inr h
   .rename_i e;rw[if_neg e]at h;exact Mz h
  |false=>
   simp only[F,cond_false]at h;rw[CD]at h;split
   .rename_i e;rw[if_pos e]at h;exact .inl (Option.some.inj h).symm
   .rename_i e;rw[if_neg e]at h;exact Mz h
theorem ON{W:List Nat}:∀{Y:List (Nat×AV)},(wipe W Y).all (λp=>p.2.avoid W)=true
 |[]=>rfl
 |p::r=>by
  unfold wipe;rw[List.all_cons,ON,Bool.and_true]
  cases F:p.2.avoid W with
  |true=>simp only[cond_true];exact F
  |false=>rfl
theorem StI.wipe{s0:An}{s:GS}(W:List Nat)(h:StI s0 n ⟨vf,H⟩ vj s vg):StI s0 n ⟨Go.Proofs.YtcikkglcoeedlaaGreat.wipe W vf,H⟩ vj s vg:=⟨h.le,h.ok,λt U J=>(Mz J).elim (λe=>e▸trivial) (h.fr t U),h.sz,h.df,h.hp,h.sep,h.own⟩
section
variable {P:Program} {s0:An} {n:Nat} {ops:Array Oper} {Q:Exit->AS->Prop} {rest:List Oper} {fr:List (Nat×AV)} {hp:List Ow}
theorem A41{hpS:List Ow}(F:va.op=.call { callee:=.value x,args:=vJ.toArray,argTypes:=vr })(sel:List Nat){m:Nat}(t:Ht hp=some m)(p:Jc (BG sel m) hpS.length (AS.arg ⟨fr,hp⟩ x) vb [] [])
  (I:Con P vb u hpS l vv) (U:l.all (Nat.blt · sel.length)=true) (c:AvoidR sel (l.map (BG sel m)) 0 hp) (B:ArgsC hp (BG sel m) hpS.length (AS.arg ⟨fr,hp⟩) vJ u) (xb:sel.Nodup) (xa:SelR (BG sel m) hp hpS.length sel hpS) (Z:TU va.dst n=true)
  (next:∀r C,vv r C->∃b q f,AVRen (BG sel m) r b/\SetR (BG sel m) hp sel C q/\AppR (BG sel m) q (KP sel.length C) f/\AWl P s0 n ops Q rest (AS.put ⟨wipe (l.map (BG sel m)) fr,f⟩ va.dst b)) :
  ∀(s:GS) (W:Nat->Value) (a:Act),StI s0 n ⟨fr,hp⟩ a s W->∀K:Act->World->Prop,(∀o J N,AWl P s0 n ops Q rest o->St s0 n o J N->K J N)->va.wp P a s.w K (FE s0 n Q):=by
 intro s W a E K X;have xg:u=([]:List Nat).map (AV.ptr · 0)++u++([]:List Nat).map (AV.ptr · 0):=by simp
 rw[xg]at I;obtain⟨G,H,xe,S,xc,xf⟩:=A2e F sel t p I.1 B xb xa (λi M=>by cases M) (λi M=>by cases M) E;obtain rfl:=Fi t;have T:LostOk sel l hp.length (wipe (l.map (BG sel hp.length)) fr) hp:=.inr ⟨U,ON,c⟩;have V:=I.2 s (λk=>W (BG sel hp.length k)) G E.ok S xc H xf;unfold Oper.wp;rw[xe];refine Calls.mono V λe N h=>?_;obtain⟨v,rfl,j,y,r,C,A,rfl,z,d⟩:=h;obtain⟨b,q,f,L,R,O,Y⟩:=next r C A;replace L:b=r.ren (BG sel hp.length):=L;rw[AppR,LM]at O;subst L;subst O;obtain⟨xd,g,w⟩:=StI.con (sel:=sel) (hpS:=hpS) T.get.1 T.get.2 (E.wipe _) xb xa d R;exact X _ _ _ Y ⟨j,xd,rfl,g.put (GS.Le.refl j) (IR Z) (w r v z)⟩
theorem Ce{F:TypeId}{t:Nat}(v:List Nat)(I:Con P vb u H l vv)(U:l.all (Nat.blt · v.length)=true)(R:AvoidR v (l.map (BG v b)) 0 hp)(A:Ht hp=some b)(p:Jc (BG v b) H.length (AS.arg ⟨fr,hp⟩ x) vb [] [])
  (s:ArgsC hp (BG v b) H.length (AS.arg ⟨fr,hp⟩) vJ u) (G:v.Nodup) (j:SelR (BG v b) hp H.length v H) (Z:Nat.blt t n=true)
  (next:∀r B,vv r B->∃C y E,AVRen (BG v b) r C/\SetR (BG v b) hp v B y/\AppR (BG v b) y (KP v.length B) E/\AWl P s0 n ops Q rest ⟨(t,C)::wipe (l.map (BG v b)) fr,E⟩) :
  AWl P s0 n ops Q (⟨some t,.call { callee:=.value x,args:=vJ.toArray,argTypes:=vr },F,vG,vH,none⟩::rest) ⟨fr,hp⟩:=AWl.step rfl (A41 rfl v A p I U R s G j Z next)
end
theorem ConP.con(h:ConP P vb u H vv vR vD)(X:¬vD):Con P vb u H [] vv:=
 ⟨h.1,λs W G A B L V m=>(h.2 s W G A B L V m).mono λe N l=>l.elim (λh=>h) λ⟨_,h,_⟩=>absurd h X⟩
def A0d(L:List Oper)(A:List (List (Nat×Nat)))(M:List AV)(H:List (Nat×AV))(n:Nat):Bool:=
 Nat.beq L.length A.length&&Nat.beq L.length M.length&&(H.all λp=>L.all λl=>l.dst != some p.1) &&
 (List.range L.length).all λi=>match L[i]?,A[i]? with
  |some o,some e=>BI o.op&&o.guard.isNone&&((Bu o).all λk=>decide (k<i))&&(e.all λp=>(Bu o).contains p.2&&(match L[p.2]? with |some l=>l.dst==some p.1 |none=>false)) &&
   (match o.dst with | none=>false | some d=>decide (d<n)&&((List.range L.length).all λj=>j==i||(match L[j]? with | some l=>l.dst != some d | none=>true)))&&o.op.operands.all (Ny L e)
  |_,_=>false
structure ChkD(L:List Oper)(n:Nat)(i:Nat)(o:Oper)(e:List (Nat×Nat))(d:Nat):Prop where
 ns:BI o.op=true
 gd:o.guard=none
 lt:∀k∈Bu o,k<i
 env:∀p∈e,p.2∈Bu o/\∃o',L[p.2]? = some o'/\o'.dst=some p.1
 dst:o.dst=some d
 dn:d<n
 du:∀(j:Nat) o',L[j]? = some o'->o'.dst=some d->j=i
 kq:∀y∈o.op.operands,Ny L e y=true
theorem A44{L:List Oper}(h:A0d L uF u vf n=true):L.length=u.length/\(∀p∈vf,∀l∈L,l.dst≠some p.1)/\∀(i:Nat) o,L[i]? = some o->∃e r d,uF[i]? = some e/\u[i]? = some r/\ChkD L n i o e d:=by
 unfold A0d at h;simp only[Bool.and_eq_true]at h;obtain⟨⟨⟨A,B⟩,E⟩,m⟩:=h;have B:=Nat.eq_of_beq_eq_true B;refine⟨B,λp G l I=>by simpa using List.all_eq_true.1 (List.all_eq_true.1 E p G) l I,λi o F=>?_⟩;have M:=(List.getElem?_eq_some_iff.1 F).1;have z:=List.all_eq_true.1 m i (List.mem_range.2 M);rw[F]at z
 cases X:uF[i]? with
 |none=>rw[X]at z;cases z
 |some e=>
  rw[X]at z;simp only[Bool.and_eq_true]at z;obtain⟨⟨⟨⟨⟨a,g⟩,K⟩,Q⟩,N⟩,R⟩:=z
  cases Z:o.dst with
  |none=>rw[Z]at N;cases N
  |some d=>
   rw[Z]at N;simp only[Bool.and_eq_true,decide_eq_true_eq]at N;refine⟨e,u[i]'(ZbK),d,rfl,List.getElem?_eq_getElem _,a,by simpa using g,λk C=>by simpa using List.all_eq_true.1 K k C,λp G=>?_,Z,N.1,λj l I J=>?_,λy O=>(Array.all_eq_true'.1 R) y O⟩
   .have:=List.all_eq_true.1 Q p G
    exact ZaR
   .have:=List.all_eq_true.1 N.2 j (List.mem_range.2 (List.getElem?_eq_some_iff.1 I).1)
    rw[I]at this;simpa[J]using this
def Dp(G:List Ow)(id:Nat)(E O:Ow)(b:Bool):List Ow:=G.set id (bif b then O else E)
def Zi(P:Program)(H:List (Nat×AV))(G:List Ow)(id:Nat)(E O:Ow)(M:List AV)(n:List (Nat×Nat))(o:Oper)(r:AV):Prop:=∀b,Quiet P (Dp G id E O b) o (Eu ⟨H,Dp G id E O b⟩ (M.map HR.av) n) r
def DCall(P:Program)(H:List (Nat×AV))(G:List Ow)(id:Nat)(E O:Ow)(M:List AV)(n:List (Nat×Nat))(o:Oper)(r:AV):Prop:=∃f x c d,o.op=.call { callee:=.value (.func f),args:=#[x],argTypes:=c }/\r=.d d/\(∀b,Eu ⟨H,Dp G id E O b⟩ (M.map HR.av) n x=.ptr id 0)/\Con P f [.ptr 0 0] [E] [] (λA u=>A=.d d/\u=[O])
def DSteps(P:Program)(H:List (Nat×AV))(G:List Ow)(id:Nat)(E O:Ow)(M:List AV)(c:Nat)(C:List (Nat×Nat)->Oper->AV->Prop):Nat->List Oper->List (List (Nat×Nat))->List AV->Prop
 |i,o::L,x::S,r::R=>(bif Nat.beq i c then C x o r else Zi P H G id E O M x o r)/\DSteps P H G id E O M c C (i+1) L S R
 |_,[],[],[]=>True
 |_,_,_,_=>False
theorem DSteps.at{P:Program}{H:List (Nat×AV)}{hp:List Ow}{id:Nat}{G O:Ow}{M:List AV}{c:Nat}{C:List (Nat×Nat)->Oper->AV->Prop}:∀{L:List Oper} {S:List (List (Nat×Nat))} {R:List AV} {j:Nat},DSteps P H hp id G O M c C j L S R->∀(i:Nat) o x r,L[i]? = some o->S[i]? = some x->R[i]? = some r->(bif Nat.beq (j+i) c then C x o r else Zi P H hp id G O M x o r)
 |[],[],[],_,_,i,o,x,c,h,_,_=>by simp at h
 |[],[],_::_,_,h,_,_,_,_,_,_,_=>h.elim
 |[],_::_,R,_,h,_,_,_,_,_,_,_=>by cases R<;>exact h.elim
 |_::_,[],R,_,h,_,_,_,_,_,_,_=>by cases R<;>exact h.elim
 |_::_,_::_,[],_,h,_,_,_,_,_,_,_=>h.elim
 |l::L,J::S,f::R,j,⟨A,B⟩,0,o,x,c,F,E,I=>by
  simp at F E I;subst F;subst E;subst I;exact A
 |l::L,J::S,f::R,j,⟨A,B⟩,i+1,o,x,c,F,E,I=>by
  have:=DSteps.at B i o x c ZeF Zei (by simpa using I);rwa [show j+1+i=j+(i+1)by omega]at this
def Rc:List Oper->List AV->List (Nat×AV)->List (Nat×AV)
 |o::L,r::M,Y=>match o.dst with |some d=>(d,r)::Rc L M Y |none=>Rc L M Y
 |_,_,Y=>Y
theorem US{p:Nat×AV}:∀{L:List Oper} {M:List AV} {Y:List (Nat×AV)},p∈Rc L M Y->p∈Y\/∃(i:Nat) (o:Oper),L[i]? = some o/\M[i]? = some p.2/\o.dst=some p.1
 |[],_,Y,h=>.inl (by unfold Rc at h;exact h)
 |o::L,[],Y,h=>.inl (by unfold Rc at h;exact h)
 |o::L,c::M,Y,h=>by
  have key:p∈Rc L M Y->p∈Y\/∃(i:Nat) (l:Oper),(o::L)[i]? = some l/\(c::M)[i]? = some p.2/\l.dst=some p.1:=λh=>by
   rcases US h with h | ⟨i,l,h1,h2,h3⟩
   .exact .inl h
   .exact .inr ⟨i+1,l,by simpa using h1,by simpa using h2,h3⟩
  unfold Rc at h;split at h
  .rename_i d Z
   rcases List.mem_cons.1 h with rfl | h
   .exact .inr ⟨0,o,rfl,rfl,Z⟩
   .exact key h
  .exact key h
theorem Nz(G:List Ow)(id:Nat)(E O:Ow)(b:Bool):(Dp G id E O b).length=G.length:=by simp[Dp]
def DCallP(P:Program)(H:List (Nat×AV))(G:List Ow)(id:Nat)(E:Ow)(M:List AV)(e:AV->List Ow->Prop)(q:List PanicEntry)(N:Prop)(n:List (Nat×Nat))(o:Oper)(_:AV):Prop:=∃f x c,o.op=.call { callee:=.value (.func f),args:=#[x],argTypes:=c }/\(∀b,Eu ⟨H,Dp G id E E b⟩ (M.map HR.av) n x=.ptr id 0)/\ConP P f [.ptr 0 0] [E] e q N
def Pu(L:List Oper):List Nat->List Nat->Bool
 |_,[]=>true
 |seen,k::r=>(seen.any λj=>match L[j]? with |some o=>(Bu o).contains k |none=>false)&&Pu L (k::seen) r
theorem RF{L:List Oper}{listed:Array Bool}:∀{F seen:List Nat},Pu L seen F=true->(∀i o,L[i]? = some o->listed.getD i false=true->∀e∈Bu o,listed.getD e false=true)->(∀k∈seen,∀o,L[k]? = some o->∀e∈Bu o,listed.getD e false=true)->∀k∈F,listed.getD k false=true
 |[],_,_,_,_,k,C=>by cases C
 |k::r,seen,h,I,f,b,y=>by
  unfold Pu at h;simp only[Bool.and_eq_true]at h;obtain⟨j,B,A⟩:=List.any_eq_true.1 h.1
  have p:listed.getD k false=true:=by
   cases T:L[j]? with
   |none=>rw[T]at A;cases A
   |some o=>
    rw[T]at A;exact f j B o T k Zdg
  rcases List.mem_cons.1 y with rfl | y
  .exact p
  .exact RF h.2 I (λq w o E=>by
    rcases List.mem_cons.1 w with rfl | w
    .exact I q o E p
    .exact f q w o E) b y
section
variable {P:Program} {frB:List (Nat×AV)} {hp:List Ow} {id:Nat} {o0 o1:Ow} {ks:List AV} {c i:Nat} {C:List (Nat×Nat)->Oper->AV->Prop} {L:List Oper} {x:List (Nat×Nat)} {S:List (List (Nat×Nat))} {r:AV} {R:List AV} {o:Oper}
theorem DSteps.q(A:Nat.beq i c=false)(h:Zi P frB hp id o0 o1 ks x o r)(f:DSteps P frB hp id o0 o1 ks c C (i+1) L S R):DSteps P frB hp id o0 o1 ks c C i (o::L) (x::S) (r::R):=⟨by rw[A];exact h,f⟩
theorem DSteps.k(A:Nat.beq i c=true)(h:C x o r)(f:DSteps P frB hp id o0 o1 ks c C (i+1) L S R):DSteps P frB hp id o0 o1 ks c C i (o::L) (x::S) (r::R):=⟨by rw[A];exact h,f⟩
theorem DSteps.nil:DSteps P frB hp id o0 o1 ks c C i [] [] []:=trivial
variable {dd:Option Tmp} {ty:TypeId} {ps:String} {af:Array Edge} {gd:Option (Nat×Bool)} {f:FuncId} {y:Operand} {tys:Array TypeId} {es:List (Nat×Nat)}
theorem DCall.mk{d:D}(E:∀b,Eu ⟨frB,Dp hp id o0 o1 b⟩ (ks.map HR.av) es y=.ptr id 0)(I:Con P f [.ptr 0 0] [o0] [] (λA u=>A=.d d/\u=[o1])):DCall P frB hp id o0 o1 ks es ⟨dd,.call { callee:=.value (.func f),args:=#[y],argTypes:=tys },ty,ps,af,gd⟩ (.d d):=⟨f,y,tys,d,rfl,rfl,E,I⟩
theorem DCallP.mk(E:∀b,Eu ⟨frB,Dp hp id o0 o0 b⟩ (ks.map HR.av) es y=.ptr id 0)(I:ConP P f [.ptr 0 0] [o0] vv vR vD):DCallP P frB hp id o0 ks vv vR vD es ⟨dd,.call { callee:=.value (.func f),args:=#[y],argTypes:=tys },ty,ps,af,gd⟩ r:=⟨f,y,tys,rfl,E,I⟩
end
def DTurn(P:Program)(s0:An)(n:Nat)(H:List (Nat×AV))(G:List Ow)(id:Nat)(E O:Ow)(M:List AV)(C:List Nat)(c:Nat)(A:List (Nat×Nat))(o:Oper)(r:AV):Prop:=∀F:List (Nat×AV),(∀p∈F,(∃i,i≠c/\i∉C/\M[i]? = some p.2)\/p∈H)->∀(s:GS) (W:Nat->Value) (a:Act),StI s0 n ⟨F,Dp G id E O false⟩ a s W->(∀y∈o.op.operands,AVr G.length W s (Eu ⟨H,Dp G id E O false⟩ (M.map HR.av) A y) (a.eval y))->RegG.OpStep P o a.eval s λv j=>∃B,StI s0 n ⟨F,Dp G id E O true⟩ a j B/\AVr G.length B j r v
structure DInvT(s0:An)(n:Nat)(hp:List Ow)(id:Nat)(o0 o1:Ow)(c:Nat)(lose:List Nat)(L:List Oper)(ks:List AV)(frB:List (Nat×AV))(listed:Array Bool)(a:Act)(s:GS)(ρ:Nat->Value):Prop where
 st:StI s0 n ⟨[],Dp hp id o0 o1 (listed.getD c false)⟩ a s ρ
 hq:∀i o d r,L[i]? = some o->o.dst=some d->ks[i]? = some r->listed.getD i false=true->(i∈lose->listed.getD c false=false)->AVr hp.length ρ s r (a.tmps.getD d undef)
 hb:∀p∈frB,AVr hp.length ρ s p.2 (a.tmps.getD p.1 undef)
def Su(A:List Nat):Nat->List AV->List AV
 |_,[]=>[]
 |i,r::M=>(bif A.any (Nat.beq i)then .d Cs else r)::Su A (i+1) M
theorem TX{A:List Nat}:∀{M:List AV} {j i:Nat},(Su A j M)[i]? = (M[i]?).map λr=>if j+i∈A then .d Cs else r
 |[],j,i=>by simp[Su]
 |r::M,j,0=>by
  have:A.any (Nat.beq j)=decide (j∈A):=by
   rw[Bool.eq_iff_iff,List.any_eq_true,decide_eq_true_eq];exact⟨λ⟨x,E,h⟩=>by rw[Nat.eq_of_beq_eq_true h];exact E,λh=>⟨j,h,Nat.beq_refl j⟩⟩
  simp only[Su,this,List.getElem?_cons_zero,Option.map_some,Nat.add_zero];by_cases h:j∈A<;>simp[h]
 |r::M,j,i+1=>by
  simp only[Su,List.getElem?_cons_succ];rw[TX,show j+1+i=j+(i+1)by omega]
def ckK(A:List Nat)(M:List AV):List CK:=M.mapIdx λi r=>if i∈A then .t 0 else .q r
theorem Za{r:AV}:(ckK l u)[n]? = some (.q r)↔n∉l/\u[n]? = some r:=by
 unfold ckK;rw[List.getElem?_mapIdx]
 cases u[n]? with
 |none=>simp
 |some x=>
  simp only[Option.map_some,Option.some.injEq];by_cases h:n∈l
  .simp [h]
  .simp [h]
theorem DSteps.imp{P:Program}{H:List (Nat×AV)}{G:List Ow}{id:Nat}{E O:Ow}{M:List AV}{c:Nat}{C q:List (Nat×Nat)->Oper->AV->Prop}(h:∀x o r,C x o r->q x o r):∀{L:List Oper} {S:List (List (Nat×Nat))} {R:List AV} {j:Nat},DSteps P H G id E O M c C j L S R->DSteps P H G id E O M c q j L S R
 |[],[],[],_,_=>trivial
 |[],[],_::_,_,h=>h.elim
 |[],_::_,R,_,h=>by cases R<;>exact h.elim
 |_::_,[],R,_,h=>by cases R<;>exact h.elim
 |_::_,_::_,[],_,h=>h.elim
 |l::L,I::S,f::R,j,⟨A,B⟩=>⟨by
  cases F:Nat.beq j c with
  |true=>rw[F]at A;exact h _ _ _ A
  |false=>rw[F]at A;exact A,DSteps.imp h B⟩
def DTW(P:Program)(s0:An)(n:Nat)(Q:Exit->AS->Prop)(E:Prop)(H:List (Nat×AV))(G:List Ow)(id:Nat)(C O:Ow)(M:List AV)(I:List Nat)(c:Nat)(A:List (Nat×Nat))(o:Oper)(r:AV):Prop:=BI o.op=true->∀F:List (Nat×AV),(∀p∈F,(∃i,i≠c/\i∉I/\M[i]? = some p.2)\/p∈H)->∀(s:GS) (W:Nat->Value) (a:Act),StI s0 n ⟨F,Dp G id C O false⟩ a s W->(∀y∈o.op.operands,AVr G.length W s (Eu ⟨H,Dp G id C O false⟩ (M.map HR.av) A y) (a.eval y))->∀R:Act->World->Prop,(∀v j B,E->StI s0 n ⟨F,Dp G id C O true⟩ a j B->AVr G.length B j r v->R (a.put o.dst v) j.w)->o.wp P a s.w R (FE s0 n Q)
theorem Ls{E:Prop}{s0:An}{L:List Oper}{L0:Array Oper}(id:Nat)(o0 o1:Ow)(c m:Nat)(xG xm:List Nat)(ks:List AV)(T:List (List (Nat×Nat)))(xh F:List (Nat×AV))(hm:DrawOk P s0 n b L0 L vm vm)(xo:H[id]? = some o0)(xV:FrIn vf xh)(xq:Nat.blt c m=true)(hL:Nat.blt m L.length=true)(yk:E->((List.range (L.length-m)).all λt=>(match L[m+t]? with | some o=>Bu o | none=>[]).all λk=>decide (k<m+t))=true)(yn:((List.range (L.length-m-1)).all λt=>(match L[m+t+1]? with | some o=>Bu o | none=>[]).contains (m+t))=true)(xX:(Pu L [m] xG&&(List.range m).all λj=>xG.contains j)=true)
  (steps:DSteps P xh H id o0 o1 ks c (DTW P s0 n vm E xh H id o0 o1 ks xm c) 0 (L.take m) T ks) (xc:A0d (L.take m) T ks xh n=true) (xF:(T.zipIdx.all λp=>Nat.beq p.2 c||p.1.all λq=>!xm.contains q.2)=true) (hF:FrIn (Rc (L.take m) (Su xm 0 ks) xh) F) (M:List Ow) (hM:Dp H id o0 o1 true=M) (fin:E->AWl P s0 n L.toArray vm (L.drop m) ⟨F,M⟩):AWp P s0 n (.region b L0 true) vm ⟨vf,H⟩:=by
 refine⟨λa w ⟨s,W,hw,xb⟩=>?_⟩;subst hw;subst hM;have yb:=xV.mem;obtain⟨yt,xv,xH⟩:=A44 xc;have xS:c<m:=by rwa [Nat.blt_eq]at xq
 have yF:m<L.length:=by rwa [Nat.blt_eq]at hL
 have ys:E->∀k o,m<=k->L[k]? = some o->∀j∈Bu o,j<k:=λS k o G U j l=>by
  have ya:=(List.getElem?_eq_some_iff.1 U).1;have B:=List.all_eq_true.1 (yk S) (k-m) (List.mem_range.2 ZbK);rw[show m+(k-m)=k by omega,U]at B;simpa using List.all_eq_true.1 B j l
 have yv:∀k o,m<k->L[k]? = some o->k-1∈Bu o:=λk o G U=>by
  have ya:=(List.getElem?_eq_some_iff.1 U).1;have B:=List.all_eq_true.1 yn (k-1-m) (List.mem_range.2 ZbK);rw[show m+(k-1-m)+1=k by omega,show m+(k-1-m)=k-1 by omega,U]at B;exact List.contains_iff_mem.1 B
 have yE:(L.take m).length=m:=by rw[List.length_take];omega
 simp only[Bool.and_eq_true]at xX
 have yD:∀{i:Nat} {o:Oper},(L.take m)[i]? = some o->L[i]? = some o:=λ{i o} h=>by
  rw[List.getElem?_take]at h;split at h
  .exact h
  .cases h
 have xA:id<H.length:=Ca xo;have xM:∀A,(Dp H id o0 o1 A)[id]? = some (bif A then o1 else o0):=λA=>by simp[Dp,xA]
 have xN:∀A,(Dp H id o0 o1 A).length=H.length:=Nz H id o0 o1
 have xt:∀j,(Array.replicate L.toArray.size false).getD j false=false:=λj=>Zaj
 have yc:Dp H id o0 o1 false=H:=by
  unfold Dp;apply List.ext_getElem?;intro i;rw[List.getElem?_set];split
  .rename_i h;subst h;exact xo.symm
  .rfl
 have yf:StI s0 n ⟨vf,H⟩ a s.dr W:=xb.put (IF s) (dst:=none) (λd Z=>by cases Z) (v:=undef) (r:=.d Cs) trivial;refine hm.run _ _ (Mx (λxd a' O=>(∃x xg,x.w=O/\(∀k,m<=k->xd.getD k false=false)/\(∀i o,L[i]? = some o->xd.getD i false=true->∀e∈Bu o,xd.getD e false=true)/\(xd.getD c false=true->E)/\DInvT s0 n H id o0 o1 c xm (L.take m) ks xh xd a' x xg)\/(∃t,m<=t/\t<=L.length/\E/\(∀i,i<t->xd.getD i false=true)/\(∀i,t<=i->xd.getD i false=false)/\wpList P L.toArray (FE s0 n vm) (L.drop t) a' O)) ?_ ?_ _ _ a s.w.drew ZbV ?_ (.inl ⟨s.dr,W,rfl,λk _=>xt k,(λi o _ h=>absurd (h.symm.trans (xt _)) ZbN),(λh=>absurd (h.symm.trans (xt _)) ZbN),by rw[xt,yc];exact yf.bare,(λi o d r _ _ _ h _=>absurd (h.symm.trans (xt _)) ZbN),(λp xa=>yf.fr _ _ (yb p xa))⟩))
 .intro xd a' w1 i xf hI N
  rcases hI with⟨s1,xz,rfl,yd,yi,S,xe⟩ | ⟨t,htm,htl,hE2,hall,hnone,hrest⟩
  rotate_left
  .have xf:xd.size=L.length:=by simpa using xf
   obtain⟨_,o,U,_⟩:=mem_ready.1 N;have U:L[i]? = some o:=by simpa using U
   have xT:=(List.getElem?_eq_some_iff.1 U).1;obtain⟨xr,xp⟩:=(CY xf U).1 N
   have xy:t<=i:=by
    rcases Nat.lt_or_ge i t with h | h
    .rw [hall i h]at xr;cases xr
    .exact h
   have yA:i=t:=by
    rcases Nat.lt_or_eq_of_le xy with h | h
    .have B:=xp _ (yv i o ZbK U)
     rw[hnone (i-1) ZbK]at B;cases B
    .exact h.symm
   subst yA
   have yx:L.drop i=o::L.drop (i+1):=by
    rw[List.drop_eq_getElem_cons xT];congr 1;have:=List.getElem?_eq_getElem xT;rw[U]at this;exact(Option.some.inj this).symm
   rw[yx]at hrest
   have ym:wpOp P L.toArray (FE s0 n vm) i (λxP xu=>wpList P L.toArray (FE s0 n vm) (L.drop (i+1)) xP xu) a' w1:=by
    unfold wpOp;rw[show L.toArray[i]? = some o by simpa using U];exact hrest
   refine wpOp_mono (λxP xu h=>.inr ⟨i+1,by omega,by omega,hE2,λk G=>?_,λk G=>?_,h⟩) ym
   .by_cases e:k=i
    .subst e;simp[show k<xd.size by omega]
    .rw [getD_set_ne false (λe'=>e e'.symm)]
     exact hall k ZbK
   .rw [getD_set_ne false ZbK]
    exact hnone k ZbK
  have xf:xd.size=L.length:=by simpa using xf
  obtain⟨_,o,U,_⟩:=mem_ready.1 N;have U:L[i]? = some o:=by simpa using U
  obtain⟨xr,xp⟩:=(CY xf U).1 N
  have yq:∀(i:Nat),i<L.length->∀k,(xd.setIfInBounds i true).getD k false=true↔k=i\/xd.getD k false=true:=λi N k=>by
   by_cases G:k=i
   .subst G;simp[show k<xd.size by omega]
   .exact ZaS
  have yp:∀i' z,L[i']? = some z->(xd.setIfInBounds i true).getD i' false=true->∀e∈Bu z,(xd.setIfInBounds i true).getD e false=true:=λi' z xj K e' xB=>by
   have xT:=(List.getElem?_eq_some_iff.1 U).1;rw[yq i xT]at K ⊢;rcases K with rfl | K
   .obtain rfl:z=o:=Option.some.inj (xj.symm.trans U)
    exact .inr (xp e' xB)
   .exact .inr (yi i' z xj K e' xB)
  have yG:i<=m:=by
   rcases Nat.lt_or_ge m i with h | h
   .have B:=xp _ (yv i o h U)
    rw[yd (i-1) ZbK]at B;cases B
   .exact h
  by_cases yr:i=m
  .subst yr
   have yB:=RF (L:=L) (listed:=xd) xX.1 yi (λk G z xj e X=>by
    obtain rfl:k=i:=by simpa using G
    obtain rfl:z=o:=Option.some.inj (xj.symm.trans U);exact xp e X)
   have xZ:∀k,k<i->xd.getD k false=true:=λk G=>yB k (by simpa using List.all_eq_true.1 xX.2 k (List.mem_range.2 G));have xb:=xe.st;rw[xZ c xS]at xb
   have yC:St s0 n ⟨F,Dp H id o0 o1 true⟩ a' s1.w:=⟨s1,xz,rfl,xb.le,xb.ok,λt av J=>by
    rw[show(⟨F,Dp H id o0 o1 true⟩:AS).hp.length=H.length from xN _];rcases US (En (hF.mem _ (En J)))with h | ⟨i',z,B,C,I⟩
    .exact xe.hb _ h
    .rw [TX,Nat.zero_add]at C
     cases G:ks[i']? with
     |none=>rw[G]at C;cases C
     |some r'=>
      rw[G]at C;have C:(if i'∈xm then AV.d Cs else r')=av:=Option.some.inj C;by_cases yl:i'∈xm
      .rw [if_pos yl]at C
       subst C;trivial
      .rw [if_neg yl]at C
       subst C;exact xe.hq i' z t r' B I G (xZ i' (by have:=(List.getElem?_eq_some_iff.1 B).1;omega)) λh=>absurd h yl,xb.sz,xb.df,xb.hp,xb.sep,xb.own⟩
   have xT:=(List.getElem?_eq_some_iff.1 U).1
   have yy:L.drop i=o::L.drop (i+1):=by
    rw[List.drop_eq_getElem_cons xT];congr 1;have:=List.getElem?_eq_getElem xT;rw[U]at this;exact(Option.some.inj this).symm
   have xn:=(fin (S (xZ c xS))).run a' s1.w yC;rw[yy]at xn
   have ym:wpOp P L.toArray (FE s0 n vm) i (λxP xu=>wpList P L.toArray (FE s0 n vm) (L.drop (i+1)) xP xu) a' s1.w:=by
    unfold wpOp;rw[show L.toArray[i]? = some o by simpa using U];exact xn
   refine wpOp_mono (λxP xu h=>.inr ⟨i+1,by omega,by omega,S (xZ c xS),λk G=>?_,λk G=>?_,h⟩) ym
   .rw [yq i ZbK]
    rcases Nat.lt_or_ge k i with h | h
    .exact .inr (xZ k h)
    .exact .inl ZbK
   .rw [getD_set_ne false ZbK]
    exact yd k ZbK
  have yz:i<m:=by omega
  have ye:(L.take m)[i]? = some o:=by rw[List.getElem?_take,if_pos yz];exact U
  obtain⟨e,r,d,X,V,ck⟩:=xH i o ye;have xT:i<xd.size:=by rw[xf];exact(List.getElem?_eq_some_iff.1 U).1
  have xw:=steps.at i o e r ye X V;rw[Nat.zero_add]at xw;have xK:L.toArray[i]? = some o:=by simpa using U
  have xL:d<a'.tmps.size:=by rw[xe.st.sz];exact ck.dn
  have xx:∀k,(xd.setIfInBounds i true).getD k false=true↔k=i\/xd.getD k false=true:=λk=>by
   by_cases G:k=i
   .subst G;simp[xT]
   .exact ZaS
  have xi:∀i' z d',(L.take m)[i']? = some z->z.dst=some d'->xd.getD i' false=true->d'≠d:=λi' z d' xj xl K e'=>by
   subst e';have:=ck.du i' z xj xl;subst this;rw[xr]at K;cases K
  have yh:∀p∈xh,p.1≠d:=λp xa e'=>xv p xa o (List.mem_of_getElem? ye) (by rw[e'];exact ck.dst)
  have yg:∀(R:Act->World->Prop),o.wp P a' s1.w (λxP xu=>R xP xu) (FE s0 n vm)->wpOp P L.toArray (FE s0 n vm) i (λxP xu=>R xP xu) a' s1.w:=λR h=>by
   unfold wpOp;rw[xK];show if Region.wanted o (yielded L.toArray a'.tmps)=true then _ else _
   exact ZhP
  have xQ:∀A y,Ny (L.take m) e y=true->AVr H.length xz s1 (Eu ⟨xh,Dp H id o0 o1 A⟩ (ks.map HR.av) e y) (a'.eval y):=λA y Q=>by
   cases y with
   |tmp t=>
    show AVr _ xz s1 (match e.find? (λp=>p.1==t)with
     |some p=>match (ks.map HR.av)[p.2]? with
      |some h=>h.val
      |none=>.d Cs
     |none=>(BV xh t).getD (.d Cs)) (a'.tmps.getD t undef)
    cases yj:e.find? (λp=>p.1==t)with
    |some p=>
     have xa:p∈e:=List.mem_of_find?_eq_some yj;have xI:p.1=t:=by simpa using List.find?_some yj
     simp only;rw[List.getElem?_map]
     cases xU:ks[p.2]? with
     |none=>trivial
     |some r'=>
      obtain⟨xO,z,xj,xl⟩:=ck.env p xa
      have:=xe.hq p.2 z p.1 r' xj xl xU (xp _ xO) λyl=>by
       have hz:=List.all_eq_true.1 xF (e,i) (by rw[List.mem_zipIdx_iff_getElem?];exact X);simp only[Bool.or_eq_true]at hz;rcases hz with hz | hz
       .rw [<-Nat.eq_of_beq_eq_true hz];exact xr
       .have:=List.all_eq_true.1 hz p xa
        simp[yl]at this
      rwa [xI]at this
    |none=>
     simp only
     cases K:BV xh t with
     |none=>trivial
     |some av=>exact xe.hb (t,av) (En K)
   |const v=>exact ZiU
   |global A=>trivial
   |func f=>exact ZiV
  by_cases xW:i=c
  .subst xW
   rw[Nat.beq_refl]at xw;have xw:DTW P s0 n vm E xh H id o0 o1 ks xm i e o r:=xw
   have xC:StI s0 n ⟨[],Dp H id o0 o1 false⟩ a' s1 xz:=by
    have:=xe.st;rwa [xr]at this
   have yu:∀p∈Hm (L.take m) (ckK xm ks) xh xd,((∃i',i'≠i/\i'∉xm/\ks[i']? = some p.2)\/p∈xh)/\AVr H.length xz s1 p.2 (a'.tmps.getD p.1 undef):=λp xa=>by
    rcases DD.1 xa with⟨i',z,g1,g2,g3,g4⟩ | g
    .obtain ⟨g5,g6⟩:=Za.1 g2
     exact⟨.inl ⟨i',(λe'=>by rw[e',xr]at g4;cases g4),g5,g6⟩,xe.hq i' z p.1 p.2 g1 g3 g6 g4 λ_=>xr⟩
    .exact ⟨.inr g,xe.hb _ g⟩
   have yo:StI s0 n ⟨Hm (L.take m) (ckK xm ks) xh xd,Dp H id o0 o1 false⟩ a' s1 xz:=⟨xC.le,xC.ok,λt av J=>by
    rw[show(⟨Hm (L.take m) (ckK xm ks) xh xd,Dp H id o0 o1 false⟩:AS).hp.length=H.length from xN _];exact(yu (t,av) (En J)).2,xC.sz,xC.df,xC.hp,xC.sep,xC.own⟩
   refine yg _ (xw ck.ns _ (λp xa=>(yu p xa).1) s1 xz a' yo (λy Q=>xQ false y (ck.kq y Q)) _ ?_)
   .intro v x xE xk xs h6
    have xR:∀(p:Nat×AV),p∈Hm (L.take m) (ckK xm ks) xh xd->AVr H.length xE x p.2 (a'.tmps.getD p.1 undef):=λp xa=>by
     have:=xs.fr p.1 p.2 (MQ xa λq hq Y=>by
      rcases DD.1 xa with⟨i1,o1,g1,g2,g3,g4⟩ | g<;>rcases DD.1 hq with⟨i2,o2,k1,k2,k3,k4⟩ | k0
      .rw [Y]at k3
       obtain⟨_,_,d3,_,_,xY⟩:=xH i1 o1 g1;obtain rfl:d3=p.1:=Option.some.inj (xY.dst.symm.trans g3);obtain rfl:=xY.du i2 o2 k1 k3;rw[g2]at k2;have:=Option.some.inj k2;simp only[CK.q.injEq]at this;exact Prod.ext Y this.symm
      .exact absurd (g3.trans (congrArg some Y.symm)) (xv q k0 o1 (List.mem_of_getElem? g1))
      .exact absurd (k3.trans (congrArg some Y)) (xv p g o2 (List.mem_of_getElem? k1))
      .have B:=yb p g
       have C:=yb q k0;rw[Y,B]at C;exact Prod.ext Y (Option.some.inj C).symm)
     rwa [show(⟨Hm (L.take m) (ckK xm ks) xh xd,Dp H id o0 o1 true⟩:AS).hp.length=H.length from xN _]at this
    refine .inl ⟨x,xE,rfl,λk G=>by rw[getD_set_ne false ZbK];exact yd k G,yp,λ_=>xk,?_⟩;have B:=xs.put (GS.Le.refl x) (dst:=o.dst) (λd' xl=>by rw[ck.dst]at xl;cases xl;exact ck.dn) (v:=v) (r:=.d Cs) trivial;rw[ck.dst]at B ⊢;refine⟨?_,λi' z d' r xj xl xD K xJ=>?_,λp xa=>?_⟩
    .rw [(xx i).2 (.inl rfl)]
     exact B.bare
    .rw [xx]at K
     rcases K with rfl | K
     .obtain rfl:z=o:=Option.some.inj (xj.symm.trans ye)
      obtain rfl:d'=d:=Option.some.inj (xl.symm.trans ck.dst);obtain rfl:=Option.some.inj (xD.symm.trans V);rw[Io xL];exact h6
     .rw [Ep (xi i' z d' xj xl K)]
      exact xR (d',r) (DD.2 (.inl ⟨i',z,xj,Za.2 ⟨(λh=>by have h:=xJ h;rw[(xx i).2 (.inl rfl)]at h;cases h),xD⟩,xl,K⟩))
    .rw [Ep (yh p xa)]
     exact xR p (DD.2 (.inr xa))
  .have yw:Nat.beq i c=false:=by
    cases h:Nat.beq i c with
    |false=>rfl
    |true=>exact absurd (Nat.eq_of_beq_eq_true h) xW
   rw[yw]at xw;have xw:Zi P xh H id o0 o1 ks e o r:=xw;have hq:=(xw (xd.getD c false)).run 0 s1 xz a'.eval xe.st.ok (Nat.zero_le _) xe.st.hp (λy Q=>by rw[xN];exact xQ _ y (ck.kq y Q));rw[xN]at hq;refine yg _ (RegG.opStep_wp ck.ns (λ_ _=>rfl) hq λv s2 ⟨B,C⟩=>.inl ⟨s2,xz,rfl,λk G=>by rw[getD_set_ne false ZbK];exact yd k G,yp,λh=>S (by rwa [getD_set_ne false (λe=>xW e)]at h),?_⟩);have I:=xe.st.put B (dst:=o.dst) (λd' xl=>by rw[ck.dst]at xl;cases xl;exact ck.dn) (v:=v) (r:=.d Cs) trivial;rw[ck.dst]at I ⊢;refine⟨?_,λi' z d' r' xj xl xD K xJ=>?_,λp xa=>?_⟩
   .rw [getD_set_ne false (λe=>xW e)]
    exact I.bare
   .rw [xx]at K
    rcases K with rfl | K
    .obtain rfl:z=o:=Option.some.inj (xj.symm.trans ye)
     obtain rfl:d'=d:=Option.some.inj (xl.symm.trans ck.dst);obtain rfl:r'=r:=Option.some.inj (xD.symm.trans V);rw[Io xL];exact C
    .rw [Ep (xi i' z d' xj xl K)]
     exact(xe.hq i' z d' r' xj xl xD K λh=>by have h:=xJ h;rwa [getD_set_ne false (λe=>xW e)]at h).chg B.chg
   .rw [Ep (yh p xa)]
    exact(xe.hb p xa).chg B.chg
 .intro xd a' w1 xf hI u
  have xf:xd.size=L.length:=by simpa using xf
  have xZ:∀i,i<m->xd.getD i false=true:=by
   intro i
   induction i using Nat.strongRecOn with
   |_ i ih=>
    intro N;have U:L[i]? = some (L[i]'(ZbK)):=List.getElem?_eq_getElem ZbK;have ye:(L.take m)[i]? = some (L[i]'(ZbK)):=by rw[List.getElem?_take,if_pos N];exact U
    obtain⟨e,r,d,X,V,ck⟩:=xH i _ ye
    cases hg:xd.getD i false with
    |true=>rfl
    |false=>
     have:i∈Region.ready .any L.toArray xd:=(CY xf U).2 ⟨hg,λk G=>ih k (ck.lt k G) (by have:=ck.lt k G;omega)⟩;exact ZhU
  rcases hI with⟨s1,xz,rfl,yd,_,S,_⟩ | ⟨t,htm,htl,hE2,hall,hnone,hrest⟩
  .have U:L[m]? = some (L[m]'(ZbK)):=List.getElem?_eq_getElem ZbK
   have:m∈Region.ready .any L.toArray xd:=(CY xf U).2 ⟨yd m (Nat.le_refl _),λk G=>xZ k (ys (S (xZ c xS)) m _ (Nat.le_refl _) U k G)⟩;exact ZhU
  .rcases Nat.lt_or_eq_of_le htl with h | h
   .have U:L[t]? = some (L[t]'h):=List.getElem?_eq_getElem h
    have:t∈Region.ready .any L.toArray xd:=(CY xf U).2 ⟨hnone t (Nat.le_refl _),λk G=>hall k (ys hE2 t _ htm U k G)⟩;exact ZhU
   .rw [h,List.drop_length]at hrest
    exact hrest
 .rw [Array.count_replicate]
  simp
theorem Jd{s0:An}(id:Nat)(O Q:Ow)(c m:Nat)(X i:List Nat)(K:List AV)(E:List (List (Nat×Nat)))(L F:List (Nat×AV))(I:P.follows .mixedOrders=true)(R:H[id]? = some O)(e:FrIn vf L)(g:Nat.blt c m=true)(N:Nat.blt m ve.length=true)(d:((List.range (ve.length-m)).all λt=>(match ve[m+t]? with | some o=>Bu o | none=>[]).all λk=>decide (k<m+t))=true)(l:((List.range (ve.length-m-1)).all λt=>(match ve[m+t+1]? with | some o=>Bu o | none=>[]).contains (m+t))=true)(Z:(Pu ve [m] X&&(List.range m).all λj=>X.contains j)=true)
  (steps:DSteps P L H id O Q K c (DTurn P s0 n L H id O Q K i c) 0 (ve.take m) E K) (J:A0d (ve.take m) E K L n=true) (V:(E.zipIdx.all λp=>Nat.beq p.2 c||p.1.all λq=>!i.contains q.2)=true) (hF:FrIn (Rc (ve.take m) (Su i 0 K) L) F) (M:List Ow) (S:Dp H id O Q true=M) (fin:AWl P s0 n ve.toArray vm (ve.drop m) ⟨F,M⟩):AWp P s0 n (.region b ve.toArray true) vm ⟨vf,H⟩:=Ls (E:=True) id O Q c m X i K E L F (Ic I) R e g N (λ_=>d) l Z (steps.imp λ_ _ _ h Y F hF s W a f G _ T=>RegG.opStep_wp Y (λ_ _=>rfl) (h F hF s W a f G) λv C ⟨y,A,B⟩=>T v C y trivial A B) J V hF M S λ_=>fin
theorem TV:∀(i:Nat) (M:List AV),Su [] i M=M
 |_,[]=>rfl
 |i,r::M=>by
  unfold Su;rw[TV];rfl
theorem Con.toP{ch:List PanicEntry}(h:Con P vb u H [] vv):ConP P vb u H vv ch False:=⟨h.1,λs W G A B L V m=>Calls.mono (h.2 s W G A B L V m) λ_ _ ⟨v,e,r⟩=>.inl ⟨v,e,r⟩⟩
theorem VR{s0:An}{E:Prop}{X Y:Ow}{I:List (Nat×Nat)}{r:AV}{ch:List PanicEntry}(a:H[b]? = some X)(xi:(∀e,X.ren e=X)/\(∀e,Y.ren e=Y)/\X.below 1)(L:va.op=.call { callee:=.value (.func vb),args:=#[x],argTypes:=vr })(xr:∀A,Eu ⟨vf,Dp H b X Y A⟩ (u.map HR.av) I x=.ptr b 0)(xp:ConP P vb [.ptr 0 0] [X] vv ch uV)(xt:∀M J,vv M J->E/\M=r/\J=[Y]/\∃d,r=.d d)(xo:uV->∀G,vm (.panic ch) G):DTW P s0 n vm E vf H b X Y u [] T I va r:=λxh F hF s i Q xa xl R K=>by
 have o:b<H.length:=Ca a;have xk:∀A,(Dp H b X Y A).length=H.length:=Nz H b X Y;have xj:(Dp H b X Y false)[b]? = some X:=by simp[Dp,o]
 have B:=xl x (by rw[L];simp[Op.operands,Call.operands]);rw[xr false]at B;obtain⟨_,bb,xb,xc⟩:=B;let mm:=(Dp H b X Y false).length;let xn:Nat->Value:=λq=>i (BG [b] mm q);have xd:OwR 0 (Dp H b X Y false).length i s b X:=xa.hp b X xj
 have xs:=xp.2 s xn [Q.eval x] xa.ok (λq l w=>by
  cases q with
  |zero=>
   cases w;exact OwR.un (e:=BG [b] mm) (by rw[xi.1];exact xd) xi.2.2 Nat.zero_lt_one λ_ _=>rfl
  |succ q=>cases w) (λp q Y o2 xq xm g=>by
  have:=Ca xm;have:=Ca g;simp only[List.length_singleton]at *;omega) rfl (λq U w=>by
  match q,w with
  |0,w=>cases w;exact⟨Nat.zero_lt_one,bb,xb,xc⟩
  |q+1,w=>simp at w)
 have Z:(execOp Q.eval va).run P s.w=.ok (.enter vb #[Q.eval x]) s.w:=by
  have c:Q.eval (.func vb)=.func (.func vb) #[] #[]:=rfl;simp[execOp,L,resolve,c,Deferred.ofValue,invoke,xp.1]
 unfold Oper.wp;rw[Z];refine Calls.mono xs λe N h=>?_;rcases h with⟨v,rfl,j,y,M,J,m,z,O,V⟩ | ⟨rfl,hN,j,rfl,O⟩
 .obtain ⟨S,rfl,rfl,d,rfl⟩:=xt _ _ m
  subst z;obtain⟨xe,t,-⟩:=StI.con (sel:=[b]) (lost:=[]) (hpS:=[X]) (hp':=[Y]) (H1:=(Dp H b X Y false).set b Y) ⟨λp J=>AV.avoid_nil _,λf l xf W=>Ow.avoid_nil _⟩ (λk C=>by cases C) xa ZbV ⟨by rw[xi.1];exact xj,xi.2.2,trivial⟩ V (by show(Dp H b X Y false).set b (Y.ren _)=_;rw[xi.2.1]);have xg:(Dp H b X Y false).set b Y=Dp H b X Y true:=by simp[Dp]
  simp only[List.length_singleton,List.drop_succ_cons,List.drop_nil,List.drop_zero,List.map_nil,List.append_nil,xg]at t;exact K v j xe S t O
 .obtain ⟨xe, t, -⟩:=StI.con (sel:=[b]) (lost:=[]) (hpS:=[X]) (hp':=[.dead]) (H1:=(Dp H b X Y false).set b .dead) ⟨λp J=>AV.avoid_nil _, λf l xf W=>Ow.avoid_nil _⟩ (λk C=>by cases C) xa ZbV ⟨by rw [xi.1]; exact xj, xi.2.2, trivial⟩ O rfl
  exact⟨_,xo hN _,j,xe,rfl,t⟩
theorem Lu{s0:An}(id:Nat)(K O:Ow)(c m:Nat)(Q:List Nat)(G:List AV)(B:List (List (Nat×Nat)))(J F:List (Nat×AV))(t:P.follows .mixedOrders=true)(L:H[id]? = some K)(z:(∀e,K.ren e=K)/\(∀e,O.ren e=O)/\K.below 1)(R:FrIn vf J)(g:Nat.blt c m=true)(T:Nat.beq ve.length (m+1)=true)(X:((match ve[m]? with | some o=>Bu o | none=>[]).all λk=>decide (k<m))=true)(V:(Pu ve [m] Q&&(List.range m).all λj=>Q.contains j)=true)
  (steps:DSteps P J H id K O G c (DCall P J H id K O G) 0 (ve.take m) B G) (C:A0d (ve.take m) B G J n=true) (hF:FrIn (Rc (ve.take m) G J) F) (M:List Ow) (S:Dp H id K O true=M) (fin:AWl P s0 n ve.toArray vm (ve.drop m) ⟨F,M⟩):AWp P s0 n (.region b ve.toArray true) vm ⟨vf,H⟩:=Ls (E:=True) id K O c m Q [] G B J F (Ic t) L R g ZeB (λ_=>by rw[Nat.eq_of_beq_eq_true T,show m+1-m=1 by omega];simpa using X) Zel V (steps.imp λ_ _ _ ⟨f,x,N,d,E,A,Y,W⟩=>VR (ch:=[]) L z E Y W.toP (λI u h=>⟨trivial,h.1.trans A.symm,h.2,d,A⟩) λh=>h.elim) C ZbV (by rw[TV];exact hF) M S λ_=>fin
theorem Lt{s0:An}(id:Nat)(G:Ow)(c m:Nat)(K:List Nat)(M:List AV)(A:List (List (Nat×Nat)))(F:List (Nat×AV))(t:P.follows .mixedOrders=true)(I:H[id]? = some G)(z:(∀e,G.ren e=G)/\G.below 1)(L:FrIn vf F)(g:Nat.blt c m=true)(T:Nat.beq ve.length (m+1)=true)(N:(Pu ve [m] K&&(List.range m).all λj=>K.contains j)=true)
  (steps:DSteps P F H id G G M c (DCallP P F H id G M vv vR vD) 0 (ve.take m) A M) (B:A0d (ve.take m) A M F n=true) (R:∀r u,¬vv r u) (O:vD->∀d,vm (.panic vR) d):AWp P s0 n (.region b ve.toArray true) vm ⟨vf,H⟩:=Ls (E:=False) id G G c m K [] M A F [] (Ic t) I L g ZeB (λh=>h.elim) Zel N (steps.imp λ_ _ _ ⟨f,x,J,C,V,Q⟩=>VR I ⟨z.1,z.1,z.2⟩ C V Q (λE u h=>absurd h (R _ _)) O) B ZbV trivial _ rfl λh=>h.elim
end
end Go.Proofs.YtcikkglcoeedlaaGreat
