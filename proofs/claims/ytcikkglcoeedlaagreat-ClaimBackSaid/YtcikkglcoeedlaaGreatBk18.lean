/- Part 18. No condition. -/
import Derived.Test.YtcikkglcoeedlaaGreatBk17
set_option linter.unusedSimpArgs false
set_option linter.unusedVariables false
set_option maxRecDepth 100000
set_option maxHeartbeats 1000000
namespace Go.Proofs.YtcikkglcoeedlaaGreat
open _root_.Go.Proofs.Tryz
open Go.RowKit
variable{ve:AS}{uv:AS->Prop}{g:AV}{vN:Array Bool}{vU:Array Field}{vt:Array TypeId}{vB:Array Value}{vW:BinOp}{p un:Bool}{vp ua:Code}{r vw uq xa:D}{vk:Exit->AS->Prop}{vR:Exit->Act->World->Prop}{vZ:Field}{vP:Func}{vd:FuncId}{s:GS}{a j uA uH:Int}{o:IntKind}{vm ul:List (List D)}{vc:List (Nat×AV)}{i:List AV}{v:List D}{l f vo:List Nat}{vf uJ:List Oper}{vO:List Operand}{H vz:List Ow}{vb uh:List Tm}{e:Type}{vu:List e}{n b T m c k h vj uo:Nat}{va:Oper}{x y vS:Operand}{P:Program}{d:TypeDesc}{t U:TypeId}{z u uk:Value}{w:World}{vH:e->List D}
inductive AddE(e:Nat):List Oper->List Oper->Prop
 |nil:AddE e [] []
 |keep {o:Oper} {l l':List Oper} (h:AddE e l l'):AddE e (o::l) (o::l')
 |add {dd:Option Tmp} {op:Op} {ty:TypeId} {ps:String} {af:Array Edge} {gd:Option (Nat×Bool)} {l l':List Oper} (h:AddE e l l'):AddE e (⟨dd,op,ty,ps,af,gd⟩::l) (⟨dd,op,ty,ps,af.push ⟨e,.data⟩,gd⟩::l')
theorem AddE.length{e:Nat}{l l':List Oper}(h:AddE e l l'):l.length=l'.length:=by
 induction h<;>simp_all
theorem AddE.at{e:Nat}{l m:List Oper}(h:AddE e l m):∀(i:Nat) (o:Oper),l[i]? = some o->∃w,m[i]? = some w/\(w=o\/w={ o with after:=o.after.push ⟨e,.data⟩ }):=by
 induction h with
 |nil=>intro i o q;simp at q
 |keep h u=>
  intro i o q
  cases i with
  |zero=>simp at q;subst q;exact⟨_,by simp,.inl rfl⟩
  |succ i=>simpa using u i o Zee
 |add h u=>
  intro i o q
  cases i with
  |zero=>simp at q;subst q;exact⟨_,by simp,.inr rfl⟩
  |succ i=>simpa using u i o Zee
def RY(e:Nat)(L Z:List Oper):Bool:=
 match L[e]?,Z[e]? with
 |some d,some T=>(match d.op with |.extract _ _=>true |.move _=>true |_=>false)&&d.guard.isNone&&(Bz d==Bz T) &&
  ((List.range L.length).all λi=>match L[i]?,Z[i]? with
   |some o,some w=>(Bz o==Bz w)||(Bz d).all λj=>(Bz o).contains j
   |_,_=>false) &&
  ((List.range L.length).all λj=>j==e||match L[j]? with
   |some o=>(Bz o).contains e||(Bz d).contains j||d.apart L.toArray o
   |none=>false) &&
  L.all λo=>BN o.op
 |_,_=>false
theorem Yb{a:Act}(G:(∃x n,va.op=.extract x n)\/∃x,va.op=.move x):(∃v,∀w,(execOp a.eval va).run P w=.ok (.value v) w)\/∀(K:Act->World->Prop) (Q:Exit->Act->World->Prop) w,¬va.wp P a w K Q:=by
 rcases G with⟨x,n,G⟩ | ⟨x,G⟩
 case inr=>exact .inl ⟨a.eval x,λw=>by simp[execOp,G]⟩
 cases E:a.eval x with
 |tuple h=>
  cases I:h[n]? with
  |some v=>exact .inl ⟨v,λw=>by simp[execOp,G,Instr.extract,E,I]⟩
  |none=>
   refine .inr λK Q w d=>?_;simp[Oper.wp,execOp,G,Instr.extract,E,I,stuck,Oper.upon]at d
 |_=>
  refine .inr λK Q w d=>?_;simp[Oper.wp,execOp,G,Instr.extract,E,stuck,Oper.upon]at d
theorem DC{L:List Oper}(t:vN.size=L.length)(q:L[n]? = some va):n∈Region.ready .any L.toArray vN↔vN.getD n false=false/\∀k∈Bz va,vN.getD k false=true:=by
 have Q:n<vN.size:=by rw[t];exact(Yae.1 q).1
 rw[mem_ready];have e:vN.getD n true=vN.getD n false:=by simp[Q]
 rw[e];refine and_congr_right λ_=>⟨λ⟨w,A,B⟩ k C=>?_,λh=>⟨va,by simpa using q,λe b F=>h _ (LN b F)⟩⟩;obtain rfl:w=va:=by rw[YbE,q]at A;exact(Yag A).symm
 obtain⟨e,b,F,rfl⟩:=JR C;exact B e b F
theorem A36(h:b∈Bz va):b∈Bz { va with after:=va.after.push ⟨n,.data⟩ }:=by
 obtain⟨x,E,F,rfl⟩:=JR h;exact LN (by simp[E]) F
theorem Ul(h:b∈Bz { va with after:=va.after.push ⟨n,.data⟩ }):b∈Bz va\/b=n:=by
 obtain⟨x,E,F,rfl⟩:=JR h;rcases Array.mem_push.1 E with E | rfl
 .exact .inl (LN E F)
 .exact .inr rfl
theorem KE(p:AddE n vf uJ)(G:RY n vf uJ=true)(y:∀c a w,¬vR (.panic c) a w)(xn:¬LetsOut vR):∀(f:Nat) (U:Array Bool) (a:Act) (w:World),U.size=vf.length ->
  (∀j o,vf[j]? = some o->U.getD j false=true->∀k∈Bz o,U.getD k false=true) ->
  wpAny P .any uJ.toArray vR f U a w->wpAny P .any vf.toArray vR f U a w:=by
 obtain⟨oe,xu,M,xd,xi,xc,xo,xk,xB,xC⟩:∃oe xu,vf[n]? = some oe/\uJ[n]? = some xu/\((∃x A,oe.op=.extract x A)\/∃x,oe.op=.move x)/\oe.guard=none/\Bz oe=Bz xu/\(∀i o W,vf[i]? = some o->uJ[i]? = some W->Bz o=Bz W\/∀j∈Bz oe,j∈Bz o)/\(∀j o,vf[j]? = some o->j=n\/n∈Bz o\/j∈Bz oe\/oe.apart vf.toArray o=true)/\∀o∈vf,BN o.op=true:=by
  unfold RY at G;split at G
  .rename_i oe xu M xd
   simp only[Yam]at G;obtain⟨⟨⟨⟨⟨B,C⟩,L⟩,S⟩,R⟩,Z⟩:=G;refine⟨oe,xu,M,xd,?_,by simpa using C,by simpa using L,λi o W q s=>?_,λj o q=>?_,λo q=>Yaj.1 Z o q⟩
   .split at B
    .exact .inl ⟨_,_,by assumption⟩
    .exact .inr ⟨_,by assumption⟩
    .cases B
   .have:=Yaj.1 S i (YaZ.2 (Yae.1 q).1)
    rw[q,s]at this;exact ZjF
   .have:=Yaj.1 R j (YaZ.2 (Yae.1 q).1)
    rw[q]at this;simp only[Ybg,YcD]at this;simp only[YbG]at this;rcases this with h | (h | h) | h
    .exact .inl h
    .exact .inr (.inl h)
    .exact .inr (.inr (.inl h))
    .exact .inr (.inr (.inr h))
  .cases G
 have d:=xi;have g:=p.length;have xp:n<vf.length:=(Yae.1 M).1
 have xj:∀(j:Nat) (o:Oper) O b,vf.toArray[j]? = some o->o.op≠.select O b:=λj o O b q h=>by
  have:=xC o (YaE (i:=j) Zee);rw[h]at this;cases this
 intro f
 induction f with
 |zero=>
  intro U a w l z h;refine⟨?_,h.2⟩;have B:=h.1;refine YdL.2 λi K=>?_;obtain⟨_,o,q,_⟩:=mem_ready.1 K;have q:vf[i]? = some o:=by simpa using q
  obtain⟨W,s,xs⟩:=p.at i o q;have xq:=(DC l q).1 K;by_cases X:i∈Region.ready .any uJ.toArray U
  .rw [B]at X;cases X
  .have xh:n∈Region.ready .any uJ.toArray U:=by
    rw[DC (by rw[l,g]) s]at X;rw[DC (by rw[l,g]) xd,<-xo];rcases xk i o W q s with h | h
    .exact absurd ⟨xq.1,by rw[<-h];exact xq.2⟩ X
    .refine ⟨?_,λk E=>xq.2 k (h k E)⟩
     cases Y:U.getD n false with
     |false=>rfl
     |true=>
      refine absurd ⟨xq.1,λk E=>?_⟩ X;rcases xs with rfl | rfl
      .exact xq.2 k E
      .rcases Ul E with E | rfl
       .exact xq.2 k E
       .exact Y
   rw[B]at xh;cases xh
 |succ f u=>
  intro U a w l z h;by_cases xm:n∈Region.ready .any vf.toArray U
  .have xz:=(DC l M).1 xm
   have xE:n∈Region.ready .any uJ.toArray U:=(DC (by rw[l,g]) xd).2 ⟨xz.1,by rw[<-xo];exact xz.2⟩;have B:=h.2 n xE;obtain⟨xv,xf,xs⟩:=p.at n oe M;obtain rfl:xv=xu:=Yag (xf.symm.trans xd);have xt:execOp a.eval xv=execOp a.eval oe:=by rcases xs with rfl | rfl<;>rfl
   have H:xv.guard=none:=by rcases xs with rfl | rfl<;>exact xc
   have xl:xv.dst=oe.dst:=by rcases xs with rfl | rfl<;>rfl
   unfold wpOp at B;rw[show uJ.toArray[n]? = some xv by simpa using xd]at B;simp only[Region.wanted,H,if_true]at B;have B:xv.wp P a w (wpAny P .any uJ.toArray vR f (U.setIfInBounds n true)) vR:=B.elim id λh=>absurd h.2 xn;rcases Yb (P:=P) (a:=a) d with⟨v,V⟩ | xe
   .have C:wpAny P .any uJ.toArray vR f (U.setIfInBounds n true) (a.put oe.dst v) w:=by
     unfold Oper.wp at B;rw[xt,V w,Oper.upon_value,xl]at B;exact B
    refine wpAny_first (v:=v) (show vf.toArray[n]? = some oe by simpa using M) xj (λc a w h=>absurd h (y c _ w)) f U a w (λj oj I m xb xe=>?_) xm (.inl ⟨by simp[Region.wanted,xc],V⟩) (u _ _ _ (by simpa using l) (λj o q J k E=>?_) C)
    .have I:vf[j]? = some oj:=by simpa using I
     rcases xB j oj I with h | h | h | h
     .exact absurd h m
     .obtain ⟨x,F,xw,xF⟩:=JR h
      exact absurd xF (xe x F xw)
     .have:=xz.2 j h
      have Q:j<U.size:=by rw[l];exact(Yae.1 I).1
      simp[Q]at this xb;rw[this]at xb;cases xb
     .exact h
    .by_cases xy:j=n
     .subst xy
      obtain rfl:o=oe:=Yag (q.symm.trans M);exact getD_set_true (xz.2 k E)
     .rw [getD_set_ne false (λh=>xy h.symm)]at J
      exact getD_set_true (z j o q J k E)
   .exfalso
    refine xe (wpAny P .any uJ.toArray vR f (U.setIfInBounds n true)) vR w ?_;unfold Oper.wp at B ⊢;rw[xt]at B
    have:∀(r:Result Next),xv.upon P a (wpAny P .any uJ.toArray vR f (U.setIfInBounds n true)) vR r=oe.upon P a (wpAny P .any uJ.toArray vR f (U.setIfInBounds n true)) vR r:=λr=>by
     rcases xs with rfl | rfl<;>rfl
    rwa [this]at B
  .have xA:∀i,i∈Region.ready .any vf.toArray U↔i∈Region.ready .any uJ.toArray U:=λi=>by
    by_cases xg:i<vf.length
    .have q:vf[i]? = some vf[i]:=Yac xg
     obtain⟨W,s,xs⟩:=p.at i _ q;rw[DC l q,DC (by rw[l,g]) s];refine and_congr_right λxb=>⟨λh k E=>?_,λh k E=>?_⟩
     .rcases xk i _ W q s with e | e
      .exact h k (by rw[e];exact E)
      .rcases xs with rfl | rfl
       .exact h k E
       .rcases Ul E with E | rfl
        .exact h k E
        .cases Y:U.getD k false with
         |true=>rfl
         |false=>exact absurd ((DC l M).2 ⟨Y,λj I=>h j (e j I)⟩) xm
     .rcases xs with rfl | rfl
      .exact h k E
      .exact h k (A36 E)
    .constructor
     .intro h
      obtain⟨_,o,q,_⟩:=mem_ready.1 h;have:=(Ybx.1 q).1;simp at this;exact absurd this xg
     .intro h
      obtain⟨_,o,q,_⟩:=mem_ready.1 h;have:=(Ybx.1 q).1;simp at this;exact absurd ZbD xg
   refine⟨λN=>h.1 (YdL.2 λi K=>?_),λi K=>?_⟩
   .have:=(xA i).2 K
    rw[N]at this;cases this
   .have B:=h.2 i ((xA i).1 K)
    obtain⟨_,o,q,_⟩:=mem_ready.1 K;have q:vf[i]? = some o:=by simpa using q
    obtain⟨W,s,xs⟩:=p.at i o q;have xq:=(DC l q).1 K
    have xG:∀t,yielded uJ.toArray t=yielded vf.toArray t:=λt=>by
     funext j;unfold yielded;simp only[YbE]
     cases I:vf[j]? with
     |none=>
      have:uJ[j]? = none:=by rw[Ycm]at I ⊢;omega
      rw[this]
     |some oj=>
      obtain⟨xH,xr,xx⟩:=p.at j oj I;rw[xr];rcases xx with rfl | rfl<;>rfl
    have xD:∀j o,vf[j]? = some o->(U.setIfInBounds i true).getD j false=true->∀k∈Bz o,(U.setIfInBounds i true).getD k false=true:=λj oj T J k E=>by
     by_cases xa:j=i
     .subst xa
      obtain rfl:oj=o:=Yag (T.symm.trans q);exact getD_set_true (xq.2 k E)
     .rw [getD_set_ne false (λh=>xa h.symm)]at J
      exact getD_set_true (z j oj T J k E)
    refine wpOp_mono (λa w h=>u _ a w (by simpa using l) xD h) ?_;unfold wpOp at B ⊢;rw[show uJ.toArray[i]? = some W by simpa using s]at B;rw[show vf.toArray[i]? = some o by simpa using q];rw[xG]at B;rcases xs with rfl | rfl
    .exact B
    .exact B
structure OnlyN(Q:Exit->AS->Prop)(e:Exit)(σ:AS):Prop where
 how:e=.normal
 run:Q .normal σ
theorem OnlyN.mk'(h:vk .normal ve):OnlyN vk .normal ve:=⟨rfl,h⟩
theorem WM{s0:An}{e:Nat}(x:P.follows .mixedOrders=true)(p:AddE e vf uJ)(F:RY e vf uJ=true):DrawOk P s0 n b vf.toArray uJ vk (OnlyN vk):=⟨λa w h=>by
 have M:∀j,(Array.replicate vf.toArray.size false).getD j false=false:=λj=>by
  rcases YaG j vf.length with h | h
  .simp [h]
  .simp [h]
 have Y:uJ.toArray.size=vf.toArray.size:=by simp[p.length]
 rw[Y]at h;have G:∀c a w,¬GG s0 n (OnlyN vk) (.panic c) a w:=λc a w ⟨d,h,_⟩=>Zjf
 have J:¬LetsOut (GG s0 n (OnlyN vk)):=λ⟨a,w,d,h,_⟩=>Zjf
 have A:=KE p F G J _ _ _ _ ZbS (λj o _ J=>by rw[M]at J;cases J) h
 exact wp_mono (wp_region_any x A) λex X N ⟨d,h,Y⟩=>by
  obtain⟨rfl,h⟩:=h;exact⟨d,h,Y⟩⟩
section
variable {P:Program} {hp:List Ow} {arg:Operand->AV} {dd:Option Tmp} {ty:TypeId} {ps:String} {af:Array Edge} {gd:Option (Nat×Bool)}
theorem AQ{r:AV}(E:arg x=r:=by first | exact ao rfl | exact ah rfl):Quiet P hp ⟨dd,.move x,ty,ps,af,gd⟩ arg r:=AG E
theorem AaO(E:arg x=g:=by first | exact ao rfl | exact ah rfl):Quiet P hp ⟨dd,.assign x,ty,ps,af,gd⟩ arg g:=Bm E
theorem AH{n b T id off:Nat}{R r:List D}(E:arg x=.ptr id off:=by first | exact ao rfl | exact ah rfl)(s:hp[id]? = some (.var T (R.map .d)):=by exact rfl)(M:Tab P t d n b z:=by exact(Aa rfl))(e:Fa d=true:=by exact rfl)(X:A4w off n R=some r:=by exact rfl):Quiet P hp ⟨dd,.load t x,ty,ps,af,gd⟩ arg (.d (AP r)):=Lt E s M e X
theorem Ar{n b T id off:Nat}(E:arg x=.ptr id off:=by first | exact ao rfl | exact ah rfl)(s:hp[id]? = some (.var T (v.map .d)):=by exact rfl)(M:Tab P t d n b z:=by exact(Aa rfl))(e:Fa d=false:=by exact rfl)(X:atO off v=some r:=by exact rfl):Quiet P hp ⟨dd,.load t x,ty,ps,af,gd⟩ arg (.d r):=BU E s M e X
theorem Cm{n b T id off:Nat}{r:AV}(E:arg x=.ptr id off:=by first | exact ao rfl | exact ah rfl)(s:hp[id]? = some (.var T i):=by exact rfl)(M:Tab P t d n b z:=by exact(Aa rfl))(e:Fa d=false:=by exact rfl)(I:i[off]? = some r:=by exact rfl):Quiet P hp ⟨dd,.load t x,ty,ps,af,gd⟩ arg r:=JY E s M e I
theorem Ca{ds:List D}(E:arg x=.d (Fg T ds):=by first | exact ao rfl | exact ah rfl)(M:Tab P t d n b z:=by exact(Aa rfl))(e:Fa d=true:=by exact rfl)(f:ds.length=n:=by exact rfl):Quiet P hp ⟨dd,.load t x,ty,ps,af,gd⟩ arg (.d (AP ds)):=Mf E M e f
theorem Fb{R r:List D}(E:arg x=.d (Fg T R):=by first | exact ao rfl | exact ah rfl)(M:Tab P t d n b z:=by exact(Aa rfl))(e:Fa d=true:=by exact rfl)(X:Pw n R=some r:=by exact rfl):Quiet P hp ⟨dd,.load t x,ty,ps,af,gd⟩ arg (.d (AP r)):=SI E M e X
theorem AT{ds:List D}(E:arg x=.d (Fg T ds):=by first | exact ao rfl | exact ah rfl)(M:Tab P t d n b z:=by exact(Aa rfl))(e:Fa d=false:=by exact rfl)(X:atO 0 ds=some r:=by exact rfl):Quiet P hp ⟨dd,.load t x,ty,ps,af,gd⟩ arg (.d r):=Gm E M e X
theorem AE{f n b g y T:Nat}{ds r:List D}(E:arg x=.d (Fg T ds):=by first | exact ao rfl | exact ah rfl)(F:Tab P t (.struct vU) n b z:=by exact(Aa rfl))(C:vU[f]? = some vZ:=by exact rfl)(A:Tab P vZ.type d g y u:=by exact(Aa rfl))(B:Nat.beq g 0=false:=by exact rfl)(X:PN vZ.offset ds=some r:=by exact rfl):Quiet P hp ⟨dd,.fieldAddr t x f,ty,ps,af,gd⟩ arg (.d (Fg T r)):=QI E F C A B X
theorem AB{f n b g y id off:Nat}(E:arg x=.ptr id off:=by first | exact ao rfl | exact ah rfl)(r:Tab P t (.struct vU) n b z:=by exact(Aa rfl))(C:vU[f]? = some vZ:=by exact rfl)(A:Tab P vZ.type d g y u:=by exact(Aa rfl))(B:Nat.beq g 0=false:=by exact rfl):Quiet P hp ⟨dd,.fieldAddr t x f,ty,ps,af,gd⟩ arg (.ptr id (off+vZ.offset)):=Il E r C A B
theorem A3C{A n b g C T k:Nat}{a:e}(E:HW hp (arg x)=some (slD T k ((a::vu).map vH)):=by exact rfl)(O:arg y=.d (ex (.int o 0)):=by first | exact ao rfl | exact ah rfl)(M:Tab P t (.slice A) n b z:=by exact(Aa rfl))(B:Tab P A d g C u:=by exact(Aa rfl))(F:g=k:=by exact rfl):Quiet P hp ⟨dd,.indexAddr t x y,ty,ps,af,gd⟩ arg (.d (Fg T (vH a))):=Ir E O M B F
theorem Dq[Inhabited e]{A n b g G T F k:Nat}{l:List e}(E:HW hp (arg x)=some (slD T F (l.map vH)):=by exact rfl)(O:arg y=.d (ex (.int o (k:Nat))):=by first | exact ao rfl | exact ah rfl)(M:Tab P t (.slice A) n b z:=by exact(Aa rfl))(B:Tab P A d g G u:=by exact(Aa rfl))(I:g=F:=by exact rfl)(C:k<l.length:=by first | omega | (simp;omega)):Quiet P hp ⟨dd,.indexAddr t x y,ty,ps,af,gd⟩ arg (.d (Fg T (vH (l.getD k default)))):=CE E O M B I C
theorem SD(E:arg x=.ptr h vj:=by first | exact ao rfl | exact ah rfl)(O:arg y=.d (ex (.int o ((uo:Nat):Int))):=by first | exact ao rfl | exact ah rfl)(M:Tab P t (.array k n) b T z:=by exact(Aa rfl))(A:Tab P n d m c u:=by exact(Aa rfl))(C:uo<k:=by first | omega | (simp;omega)):Quiet P hp ⟨dd,.indexAddr t x y,ty,ps,af,gd⟩ arg (.ptr h (vj+uo*m)):=MT E O M A C
theorem A0M{e n b g B len T k:Nat}(E:arg x=.d (Fg T v):=by first | exact ao rfl | exact ah rfl)(O:arg y=.d (ex (.int o ((k:Nat):Int))):=by first | exact ao rfl | exact ah rfl)(M:Tab P t (.array len e) n b z:=by exact(Aa rfl))(A:Tab P e d g B u:=by exact(Aa rfl))(C:k<len:=by first | omega | (simp;omega)):Quiet P hp ⟨dd,.indexAddr t x y,ty,ps,af,gd⟩ arg (.d (Fg T (v.drop (k*g)))):=Lu E O M A C
theorem Wk{e n b g B len id off:Nat}{i:Int}(E:arg x=.ptr id off:=by first | exact ao rfl | exact ah rfl)(O:arg y=.d (ex (.int o i)):=by first | exact ao rfl | exact ah rfl)(M:Tab P t (.array len e) n b z:=by exact(Aa rfl))(A:Tab P e d g B u:=by exact(Aa rfl))(c:0<=i:=by decide)(J:i<len:=by decide):Quiet P hp ⟨dd,.indexAddr t x y,ty,ps,af,gd⟩ arg (.ptr id (off+i.toNat*g)):=QH E O M A c J
theorem NO(E:HW hp (arg x)=some (slD k h (vu.map vH)):=by exact rfl)(O:arg y=.d (ex (.int .i64 (vj:Nat))):=by first | exact ao rfl | exact ah rfl)(M:Tab P t (.slice n) b T z:=by exact(Aa rfl))(A:Tab P n d m c u:=by exact(Aa rfl))(B:m=h:=by exact rfl)(K:vj<=vu.length:=by first | omega | (simp;omega)):Quiet P hp ⟨dd,.slice t x (some y) none none,ty,ps,af,gd⟩ arg (.d (slD k h ((vu.drop vj).map vH))):=Ob E O M A B K
theorem BK{A n b T k:Nat}{l:List e}(E:HW hp (arg x)=some (slD T k (l.map vH)):=by exact rfl)(M:Tab P t (.slice A) n b z:=by exact(Aa rfl)):Quiet P hp ⟨dd,.call { callee:=.builtin .len,args:=#[x],argTypes:=#[t] },ty,ps,af,gd⟩ arg (.d (ex (.int .i64 (l.length:Nat)))):=Bi E M
theorem QE{e n b:Nat}(E:arg x=.d (wD l):=by first | exact ao rfl | exact ah rfl)(M:Tab P t (.slice e) n b z:=by exact(Aa rfl)):Quiet P hp ⟨dd,.call { callee:=.builtin .len,args:=#[x],argTypes:=#[t] },ty,ps,af,gd⟩ arg (.d (ex (.int .i64 (l.length:Nat)))):=QG E M
theorem CJ{a:Nat}(E:arg x=.d (ex (.int .i64 (a:Nat))):=by first | exact ao rfl | exact ah rfl)(O:arg y=.d (ex (.int .i64 1)):=by first | exact ao rfl | exact ah rfl)(A:(a:Int)<9223372036854775807:=by omega):Quiet P hp ⟨dd,.binOp .add t x y U,ty,ps,af,gd⟩ arg (.d (ex (.int .i64 ((a+1:Nat):Int)))):=Ik E O A
theorem Wn(E:arg x=.d (ex (.int .i64 a)):=by first | exact ao rfl | exact ah rfl)(O:arg y=.d (ex (.int .i64 j)):=by first | exact ao rfl | exact ah rfl)(A:-9223372036854775808<=a+j:=by omega)(B:a+j<=9223372036854775807:=by omega):Quiet P hp ⟨dd,.binOp .add t x y U,ty,ps,af,gd⟩ arg (.d (ex (.int .i64 (a+j)))):=Pn E O A B
theorem A2l(E:arg x=.d (ex (.int .i64 ((n:Nat):Int))):=by first | exact ao rfl | exact ah rfl)(O:arg y=.d (ex (.int .i64 1)):=by first | exact ao rfl | exact ah rfl)(c:0<n:=by omega)(A:(n:Int)<9223372036854775807:=by omega):Quiet P hp ⟨dd,.binOp .sub t x y U,ty,ps,af,gd⟩ arg (.d (ex (.int .i64 ((n-1:Nat):Int)))):=Jj E O c A
theorem A0K(E:arg x=.d (ex (.int .i64 a)):=by first | exact ao rfl | exact ah rfl)(O:arg y=.d (ex (.int .i64 j)):=by first | exact ao rfl | exact ah rfl)(A:-9223372036854775808<=a-j:=by omega)(B:a-j<=9223372036854775807:=by omega):Quiet P hp ⟨dd,.binOp .sub t x y U,ty,ps,af,gd⟩ arg (.d (ex (.int .i64 (a-j)))):=Pg E O A B
theorem Aak(E:arg x=.d (ex (.int .i64 a)):=by first | exact ao rfl | exact ah rfl)(O:arg y=.d (ex (.int .i64 j)):=by first | exact ao rfl | exact ah rfl)(c:0<=a:=by omega)(A:a<=9223372036854775807:=by omega)(F:0<j:=by omega):Quiet P hp ⟨dd,.binOp .quo t x y U,ty,ps,af,gd⟩ arg (.d (ex (.int .i64 (a/j)))):=Wx E O c A F
theorem A6d(E:arg x=.d (ex (.int o a)):=by first | exact ao rfl | exact ah rfl)(O:arg y=.d (ex (.int o j)):=by first | exact ao rfl | exact ah rfl)(c:0<=a:=by omega)(F:0<j:=by omega):Quiet P hp ⟨dd,.binOp .rem t x y U,ty,ps,af,gd⟩ arg (.d (ex (.int o (a%j)))):=SG E O c F
theorem Bb{k:IntKind}(F:Ud vW=true:=by exact rfl)(E:arg x=.d (ex (.int k a)):=by first | exact ao rfl | exact ah rfl)(O:arg y=.d (ex (.int k j)):=by first | exact ao rfl | exact ah rfl)(I:CR vW a j:=by first | (simp only[CR,Yav,Ybv];omega) | (simp[CR];done) | (simp[CR];omega)):Quiet P hp ⟨dd,.binOp vW t x y U,ty,ps,af,gd⟩ arg (.d (ex (.bool true))):=GV F E O I
theorem AN{k:IntKind}(F:Ud vW=true:=by exact rfl)(E:arg x=.d (ex (.int k a)):=by first | exact ao rfl | exact ah rfl)(O:arg y=.d (ex (.int k j)):=by first | exact ao rfl | exact ah rfl)(I:¬CR vW a j:=by first | (simp only[CR,Yav,Ybv];omega) | (simp[CR];done) | (simp[CR];omega)):Quiet P hp ⟨dd,.binOp vW t x y U,ty,ps,af,gd⟩ arg (.d (ex (.bool false))):=Im F E O I
theorem Ci{k:IntKind}{a b:Int}(E:arg x=.d (ex (.int k a)):=by first | exact ao rfl | exact ah rfl)(O:arg y=.d (ex (.int k b)):=by first | exact ao rfl | exact ah rfl)(I:Yq vW a b=some p:=by exact rfl):Quiet P hp ⟨dd,.binOp vW t x y U,ty,ps,af,gd⟩ arg (.d (ex (.bool p))):=WF E O I
theorem A3B(E:arg x=.d (ex (.bool p)):=by first | exact ao rfl | exact ah rfl)(O:arg y=.d (ex (.bool un)):=by first | exact ao rfl | exact ah rfl)(k:P.underlying t=some .bool:=by kernel_rfl):Quiet P hp ⟨dd,.binOp .neq t x y U,ty,ps,af,gd⟩ arg (.d (ex (.bool (!(p==un))))):=Me E O k
theorem GR(E:arg x=.d (ex (.bool p)):=by first | exact ao rfl | exact ah rfl):Quiet P hp ⟨dd,.unOp .not t x,ty,ps,af,gd⟩ arg (.d (ex (.bool (!p)))):=Wz E
theorem A0L(E:arg x=.d (ex (.int .i64 a)):=by first | exact ao rfl | exact ah rfl)(A:-9223372036854775807<=a:=by omega)(B:a<=9223372036854775807:=by omega):Quiet P hp ⟨dd,.unOp .neg t x,ty,ps,af,gd⟩ arg (.d (ex (.int .i64 (-a)))):=SH E A B
theorem Cz{r:AV}(E:arg y=r:=by first | exact ao rfl | exact ah rfl)(I:arg x=.d (ex (.bool true)):=by first | exact ao rfl | exact ah rfl):Quiet P hp ⟨dd,.pick x y vS,ty,ps,af,gd⟩ arg r:=HK E I
theorem BT{r:AV}(O:arg vS=r:=by first | exact ao rfl | exact ah rfl)(I:arg x=.d (ex (.bool false)):=by first | exact ao rfl | exact ah rfl):Quiet P hp ⟨dd,.pick x y vS,ty,ps,af,gd⟩ arg r:=JX O I
theorem AK{f:Operand}{ds:List D}(I:Abs P vd ds r)(t:arg f=.d (ex (.func (.func vd) #[] #[])):=by first | exact ao rfl | exact ah rfl)(p:ArgsLe hp arg vO ds:=by repeat (first | exact ArgsLe.nil | refine ArgsLe.cons rfl (D.le.refl _) ?_ | refine ArgsLe.cons rfl AL ?_)):Quiet P hp ⟨dd,.call { callee:=.value f,args:=vO.toArray,argTypes:=vt },ty,ps,af,gd⟩ arg (.d r):=BP t I p
end
section
variable {P:Program} {s0:An} {n:Nat} {ops:Array Oper} {Q:Exit->AS->Prop} {rest:List Oper} {fr:List (Nat×AV)} {hp:List Ow} {ty:TypeId} {ps:String} {af:Array Edge} {d:Nat} {op:Op} {r:AV}
theorem Wq(l:Quiet P hp ⟨some d,op,ty,ps,af,none⟩ (AS.arg ⟨fr,hp⟩) r)(h:AWl P s0 n ops Q rest ⟨(d,r)::fr,hp⟩)(Y:BN op=true:=by exact rfl)(e:Nat.blt d n=true:=by exact rfl):AWl P s0 n ops Q (⟨some d,op,ty,ps,af,none⟩::rest) ⟨fr,hp⟩:=De Y e ⟨r,l,h⟩
theorem Wg{j:Nat}(l:Quiet P hp ⟨some d,op,ty,ps,af,some (j,p)⟩ (AS.arg ⟨fr,hp⟩) r)(h:AWl P s0 n ops Q rest ⟨(d,r)::fr,hp⟩)(O:(ops[j]?).bind (·.dst)=some b:=by exact rfl)(J:Ch fr b=some (.d (ex (.bool p))):=by exact rfl)(B:Nat.blt b n=true:=by exact rfl)(Y:BN op=true:=by exact rfl)(e:Nat.blt d n=true:=by exact rfl):AWl P s0 n ops Q (⟨some d,op,ty,ps,af,some (j,p)⟩::rest) ⟨fr,hp⟩:=Pt O J B Y e ⟨r,l,h⟩
theorem Ws{j:Nat}(h:AWl P s0 n ops Q rest ⟨(d,.d (ex undef))::fr,hp⟩)(O:(ops[j]?).bind (·.dst)=some b:=by exact rfl)(J:Ch fr b=some (.d (ex z)):=by exact rfl)(C:isB z p=false:=by exact rfl)(B:Nat.blt b n=true:=by exact rfl)(e:Nat.blt d n=true:=by exact rfl):AWl P s0 n ops Q (⟨some d,op,ty,ps,af,some (j,p)⟩::rest) ⟨fr,hp⟩:=ST O J C B e h
end
section
variable {P:Program} {σ:AS} {K:List HR->Prop} {acc acc':List HR} {o:Oper} {L:List Oper} {e:List (Nat×Nat)} {es:List (List (Nat×Nat))} {r:AV}
theorem Xq(l:Quiet P σ.hp o (DZ σ acc e) r)(h:HS P σ K acc' L es)(A:o.guard=none:=by exact rfl)(p:Ri acc (.av r)=some acc':=by exact rfl):HS P σ K acc (o::L) (e::es):=⟨_,HStep.q A l,_,p,h⟩
theorem Xg(l:Quiet P σ.hp o (DZ σ acc e) r)(h:HS P σ K acc' L es)(B:o.guard=some (n,p):=by exact rfl)(a:acc[n]? = some (.av (.d (ex (.bool p)))):=by exact rfl)(A:Ri acc (.av r)=some acc':=by exact rfl):HS P σ K acc (o::L) (e::es):=⟨_,Be B a l,_,A,h⟩
theorem Xn(h:HS P σ K acc' L es)(B:o.guard=none:=by exact rfl)(G:o.op=.alloc n:=by exact rfl)(M:Tab P n d b T z:=by exact Aa rfl)(k:n≠335:=by decide)(A:HP z.cells.toList=true:=by exact rfl)(p:Ri acc (.new n z.cells.toList)=some acc':=by exact rfl):HS P σ K acc (o::L) (e::es):=⟨_,HStep.n B M G k A,_,p,h⟩
theorem HqG{R:HR->Prop}(C:o.guard=some (n,p))(a:acc[n]? = some (.av (.d (ex (.bool p)))))(h:∃r,Quiet P σ.hp o (DZ σ acc e) r/\R (.av r)):∃r,HStep P σ acc e o r/\R r:=let⟨r,A,B⟩:=h;⟨_,Be C a A,B⟩
end
end Go.Proofs.YtcikkglcoeedlaaGreat
set_option linter.unusedSimpArgs false
set_option linter.unusedVariables false
namespace Go.Proofs.YtcikkglcoeedlaaGreat
open _root_.Go.Proofs.Tryz
open Go.RowKit
section
variable {P:Program} {s0:An} {n:Nat} {ops:Array Oper} {Q:Exit->AS->Prop} {σ:AS}
variable{uv:AS->Prop}
theorem Yn(h:uv σ):AThen uv Q .normal σ:=Kz h
theorem Y0(h:uv σ):AWl P s0 n ops (AThen uv Q) [] σ:=AWl.nil (Kz h)
variable{vp:Code}
theorem Y1{i:Nat}{l:List Oper}(h:AWl P s0 n l.toArray (AThen (AWp P s0 n vp Q) Q) l σ):AWp P s0 n (.seq (.region i l.toArray false) vp) Q σ:=Ai (AWp.region h)
theorem Ys(h:uv σ):AWp P s0 n .skip (AThen uv Q) σ:=GW (Kz h)
end
variable{ve:AS}{g:AV}{r:D}{vP:Func}{n:Nat}{P:Program}
theorem Yf(X:vP.results=#[.tmp n]:=by exact rfl)(h:Ch ve.fr n=some g:=by exact rfl)(E:HW ve.hp g=some r:=by exact rfl):Fin P vP r .ret ve:=AA (by rw[X];exact Am (ResV.tmp h E) (D.le.refl _))
theorem Ab {f : FuncId} {c : Code} {ds : List D} (t : P.funcs[f]? = some vP) (h : ∀ v, AWp P v vP.ntmps c (Fin P vP r) ⟨params 0 ds, []⟩) (F : vP.body = some c := by exact rfl) (A : (vP.name == "runtime.NumGoroutine") = false := by kernel_rfl) (B : vP.body.isNone = false := by kernel_rfl) (C : Nat.ble ds.length vP.ntmps = true := by exact rfl) : Abs P f ds r := Abs.intro t F (Ag t A B) C h
section
variable {P:Program} {s0:An} {n:Nat} {ops:Array Oper} {Q:Exit->AS->Prop} {fr:List (Nat×AV)} {hp hp':List Ow} {rest:List Oper} {ty:TypeId} {ps:String} {af:Array Edge} {d:Nat} {x:Operand} {r:AV}
theorem Wm(h:AWl P s0 n ops Q rest ⟨(d,r)::fr,hp⟩)(E:AS.arg ⟨fr,hp⟩ x=r:=by exact ao rfl)(e:Nat.blt d n=true:=by exact rfl):AWl P s0 n ops Q (⟨some d,.move x,ty,ps,af,none⟩::rest) ⟨fr,hp⟩:=Wq (AG E) h rfl e
theorem Wa(h:AWl P s0 n ops Q rest ⟨(d,r)::fr,hp⟩)(E:AS.arg ⟨fr,hp⟩ x=r:=by exact ao rfl)(e:Nat.blt d n=true:=by exact rfl):AWl P s0 n ops Q (⟨some d,.assign x,ty,ps,af,none⟩::rest) ⟨fr,hp⟩:=Wq (Bm E) h rfl e
variable{vp ua:Code}
theorem Ct(h:AWp P s0 n vp Q ⟨fr,hp⟩)(E:AS.arg ⟨fr,hp⟩ x=.d (ex (.bool true)):=by exact ao rfl):AWp P s0 n (.cond x vp ua) Q ⟨fr,hp⟩:=Pu E h
theorem Cf(h:AWp P s0 n ua Q ⟨fr,hp⟩)(E:AS.arg ⟨fr,hp⟩ x=.d (ex (.bool false)):=by exact ao rfl):AWp P s0 n (.cond x vp ua) Q ⟨fr,hp⟩:=Pv E h
variable{i:List AV}{z:Value}
theorem Sf{T B:TypeId}{t:TypeDesc}{b id m:Nat}{y:Operand}{ds:List D}(h:AWl prog s0 n ops Q rest ⟨fr,hp'⟩)(E:AS.arg ⟨fr,hp⟩ x=.ptr id 0:=by exact ao rfl)(O:AS.arg ⟨fr,hp⟩ y=.d (AP ds):=by exact ao rfl)(s:hp[id]? = some (.var B i):=by exact rfl)(M:Tab prog T t m b z:=by exact Aa rfl)(A:ds.length=m:=by exact rfl)(J:i.length=m:=by exact rfl)(Y:GZ hp id (.var B (ds.map .d))=some hp':=by exact rfl):AWl prog s0 n ops Q (⟨none,.store T x y,ty,ps,af,none⟩::rest) ⟨fr,hp⟩:=A8l E O s M A J Y h
variable{d:TypeDesc}{t:TypeId}
theorem Al{m b k B:Nat}{c:List D}(h:AWl prog s0 n ops Q rest ⟨(B,.ptr k 0)::fr,hp'⟩)(M:Tab prog t d m b z:=by exact Aa rfl)(E:Nat.beq t 335=false:=by exact rfl)(A:HP z.cells.toList=true:=by exact rfl)(e:Nat.blt B n=true:=by exact rfl)(I:exO z.cells.toList=some c:=by exact rfl)(C:HU hp=some k:=by exact rfl)(Y:Gf hp (.var t (c.map .d))=some hp':=by exact rfl):AWl prog s0 n ops Q (⟨some B,.alloc t,ty,ps,af,none⟩::rest) ⟨fr,hp⟩:=AaB M E A e I C Y h
theorem Bx{ds:List D}{k A:Nat}(h:AWl P s0 n ops Q rest ⟨(A,.ptr k 0)::fr,hp'⟩)(E:AS.arg ⟨fr,hp⟩ x=.d (AP ds):=by exact ao rfl)(B:Nat.beq t 335=false:=by exact rfl)(e:Nat.blt A n=true:=by exact rfl)(C:HU hp=some k:=by exact rfl)(Y:Gf hp (.var t (ds.map .d))=some hp':=by exact rfl):AWl P s0 n ops Q (⟨some A,.box t x,ty,ps,af,none⟩::rest) ⟨fr,hp⟩:=AaA E B e C Y h
variable{vm ul:List (List D)}{vc:List (Nat×AV)}{x y:Operand}{u:Value}
theorem Ap{t T G k bytes id m b e:Nat}(h:AWl prog s0 n ops Q rest ⟨(e,.own id)::vc,hp'⟩)(E:AS.arg ⟨fr,hp⟩ x=.own id:=by exact ao rfl)(O:HW hp (AS.arg ⟨fr,hp⟩ y)=some (slD G k ul):=by exact rfl)(s:hp[id]? = some (.row T k vm):=by exact rfl)(M:Tab prog t (.slice T) m b u:=by exact Aa rfl)(C:Tab prog T d k bytes z:=by exact Aa rfl)(I:z.cells.size=k:=by exact rfl)(A:Nat.blt e n=true:=by exact rfl)(F:(vm.length+ul.length)*bytes<=140737488355328:=by simp;omega)(U:vm.length+ul.length<=4611686018427387904:=by simp;omega)(B:JS id (slD T k vm) fr=some vc:=by exact rfl)(a:PlainHp id hp:=by repeat (first | exact PlainHp.nil | refine PlainHp.var ?_ | refine PlainHp.row ?_ | refine PlainHp.dead ?_ | refine PlainHp.obj ?_ | refine PlainHp.pin rfl ?_ | refine PlainHp.varA rfl ?_))(Y:GZ hp id (.row T k (vm++ul))=some hp':=by exact rfl):AWl prog s0 n ops Q (⟨some e,.call { callee:=.builtin .append,args:=#[x,y],argTypes:=#[t,t] },ty,ps,af,none⟩::rest) ⟨fr,hp⟩:=EA E O s M C I A F U B a Y h
end
section
variable {hp:List Ow} {m T z:Nat} {l l':List Ow}
theorem Yr{r:List (List D)}(h:HpLe hp m l l'):HpLe hp m (.row T z r::l) (.row T z r::l'):=HpLe.cons (OwLe.row rfl) h
theorem Yv{c:List D}(h:HpLe hp m l l'):HpLe hp m (.var T (c.map .d)::l) (.var T (c.map .d)::l'):=HpLe.cons (OwLe.varD rfl) h
theorem Yd{x:D}{f r:List (Nat×AV)}(h:FrLe hp m f r)(C:Ch f n=some (.d x):=by exact rfl):FrLe hp m f ((n,.d x)::r):=FrLe.cons C (AVle.d rfl) h
theorem Yp{t i o:Nat}{f r:List (Nat×AV)}(h:FrLe hp m f r)(C:Ch f t=some (.ptr i o):=by exact rfl)(K:Nat.blt i m=true:=by exact rfl):FrLe hp m f ((t,.ptr i o)::r):=FrLe.cons C (AVle.ptr K) h
end
variable{H:List Ow}
theorem Po(h:HW H g=some r)(A:One H g:=by first | exact CU rfl | exact CX | exact One.ep):PartOk H g [r]:=PartOk.one h A
def Aac:List Oper->List (List Nat)->Nat->List (List Nat)
 |[],u,_=>u
 |o::l,u,i=>Aac l (u++[(List.range i).filter λj=>(Bz o).any λe=>Nat.beq e j||(u.getD e []).any (Nat.beq j)]) (i+1)
def A9Q(t:Nat):List Oper->Nat->Option Nat
 |[],_=>none
 |o::l,i=>match o.dst with
  |some d=>bif Nat.beq d t then some i else A9Q t l (i+1)
  |none=>A9Q t l (i+1)
def A7E(L:List Oper):List Operand->List (Nat×Nat)
 |[]=>[]
 |.tmp t::l=>match A9Q t L 0 with
  |some i=>(t,i)::A7E L l
  |none=>A7E L l
 |_::l=>A7E L l
def Yc(L:List Oper):List Oper->List (List (Nat×Nat))
 |[]=>[]
 |o::l=>A7E L o.op.operands.toList::Yc L l
variable{vf:List Oper}
theorem Dy {s0 : An} {Q : Exit → AS → Prop} {f : List (Nat × AV)} {id : Nat} (m : Nat) (h : HS P ⟨f, H⟩ (fun a => ∃ o, VY f H m vf a = some o ∧ AWl P s0 n vf.toArray Q (vf.drop m) o) [] vf (Yc (vf.take m) (vf.take m))) (x : P.follows .mixedOrders = true := by kernel_rfl) (J : (Yc (vf.take m) (vf.take m)).length = m := by kernel_rfl) (q : ((Yc (vf.take m) (vf.take m)).length == (Aac (vf.take m) [] 0).length && Nat.ble (Yc (vf.take m) (vf.take m)).length vf.length) = true := by kernel_rfl) (F : Ed vf (Gg 0 (Yc (vf.take m) (vf.take m)) (Aac (vf.take m) [] 0)) = true := by kernel_rfl) (e : HH vf m n = true := by kernel_rfl) (A : Ny 0 vf (Yc (vf.take m) (vf.take m)) = true := by kernel_rfl) : AWp P s0 n (.region id vf.toArray true) Q ⟨f, H⟩ :=
 QM (HM x) (Yc (vf.take m) (vf.take m)) _ q F (by rw[J];exact e) A (by rw[J];exact h)
variable{uJ:List Oper}
theorem K4{e:Nat}{a b c d:Oper}(h:AddE e vf uJ):AddE e (a::b::c::d::vf) (a::b::c::d::uJ):=.keep (.keep (.keep (.keep h)))
def A2g(G:List Ow)(arg:Operand->AV):List Operand->Option (List D)
 |[]=>some []
 |x::l=>match HW G (arg x),A2g G arg l with
  |some d,some R=>some (d::R)
  |_,_=>none
theorem YM{G:List Ow}{arg:Operand->AV}:∀{l:List Operand} {R:List D},A2g G arg l=some R->ArgsLe G arg l R
 |[],R,h=>by cases h;exact ArgsLe.nil
 |x::l,R,h=>by
  unfold A2g at h;split at h
  .rename_i d L A B
   cases h;exact ArgsLe.cons A (D.le.refl _) (YM B)
  .cases h
section
variable {P:Program} {hp:List Ow} {arg:Operand->AV} {dd:Option Tmp} {ty:TypeId} {ps:String} {af:Array Edge} {gd:Option (Nat×Bool)}
variable{vt:Array TypeId}{vd:FuncId}{v:List D}{vO:List Operand}{x:Operand}
theorem SJ(t:arg x=.d (ex (.func (.func vd) #[] #[])))(e:A2g hp arg vO=some v)(I:Abs P vd v r):Quiet P hp ⟨dd,.call { callee:=.value x,args:=vO.toArray,argTypes:=vt },ty,ps,af,gd⟩ arg (.d r):=BP t I (YM e)
end
structure HQ(q:Prop):Prop where
 a:q
theorem GoQ{p q:Prop}(k:q)(h:HQ q->p:=by intro l;(first | (apply Gp;refine⟨_,AG (ao rfl),?_⟩) | (apply GF;refine⟨_,Bm (ao rfl),?_⟩) | (apply QL;first | refine⟨_,Lt (ao rfl) rfl (Aa rfl) rfl rfl,?_⟩ | refine⟨_,BU (ao rfl) rfl (Aa rfl) rfl rfl,?_⟩ | refine⟨_,JY (ao rfl) rfl (Aa rfl) rfl rfl,?_⟩ | refine⟨_,Mf (ao rfl) (Aa rfl) rfl rfl,?_⟩ | refine⟨_,SI (ao rfl) (Aa rfl) rfl rfl,?_⟩ | refine⟨_,Gm (ao rfl) (Aa rfl) rfl rfl,?_⟩ | refine⟨_,Mg (ao rfl) rfl (Aa rfl) rfl (Jm ZbR),?_⟩ | refine⟨_,HL (ao rfl) (Aa rfl) rfl (HN ZbR),?_⟩) | (apply Gt.index;refine⟨_,Gn (ao rfl) (ao rfl) (Aa rfl) (Aa rfl) rfl ZbR (CellAt.mon ZbR),?_⟩) | (apply In;first | refine⟨_,QI (ao rfl) (Aa rfl) rfl (Aa rfl) rfl rfl,?_⟩ | refine⟨_,Il (ao rfl) (Aa rfl) rfl (Aa rfl) rfl,?_⟩) | (apply Of;first | refine⟨_,Ir rfl (ao rfl) (Aa rfl) (Aa rfl) rfl,?_⟩ | refine⟨_,CE rfl (ao rfl) (Aa rfl) (Aa rfl) rfl ZbR,?_⟩ | refine⟨_,Hn rfl (ao rfl) (Aa rfl) (Aa rfl) rfl rfl ZbD,?_⟩ | refine⟨_,MT (ao rfl) (ao rfl) (Aa rfl) (Aa rfl) ZbR,?_⟩ | refine⟨_,Lu (ao rfl) (ao rfl) (Aa rfl) (Aa rfl) ZbR,?_⟩ | refine⟨_,WE (ao rfl) (ao rfl) (Aa rfl) (Aa rfl) ZbH ZbH rfl,?_⟩ | refine⟨_,QH (ao rfl) (ao rfl) (Aa rfl) (Aa rfl) ZbH ZbH,?_⟩ | refine⟨_,Mh (ao rfl) (ao rfl) (Aa rfl) (Aa rfl) ZbR,?_⟩) | (apply A6t;first | refine⟨_,Ob rfl (ao rfl) (Aa rfl) (Aa rfl) rfl ZbR,?_⟩ | refine⟨_,NX rfl (ao rfl) (Aa rfl) (Aa rfl) rfl ZbR,?_⟩) | (apply A1c;first | refine⟨_,Bi rfl (Aa rfl),?_⟩ | refine⟨_,QG (ao rfl) (Aa rfl),?_⟩ | refine⟨_,A12 rfl (Aa rfl),?_⟩) | (apply A1d;first | refine⟨_,Ik (ao rfl) (ao rfl) ZbD,?_⟩ | refine⟨_,NY (ao rfl) (ao rfl) ZbD,?_⟩ | refine⟨_,Pn (ao rfl) (ao rfl) ZbD ZbD,?_⟩) | (apply A6s;first | refine⟨_,Jj (ao rfl) (ao rfl) ZbD ZbD,?_⟩ | refine⟨_,Pg (ao rfl) (ao rfl) ZbD ZbD,?_⟩) | (apply Gt.mul;refine⟨_,WA (ao rfl) (ao rfl) ZbD ZbD,?_⟩) | (apply Aas;refine⟨_,Wx (ao rfl) (ao rfl) ZbD ZbD ZbD,?_⟩) | (apply A6u;first | refine⟨_,SG (ao rfl) (ao rfl) ZbD ZbD,?_⟩ | refine⟨_,QF (ao rfl) (ao rfl) ZbH,?_⟩) | (apply AbK;refine⟨_,A0Y (ao rfl) (ao rfl) ZbR ZbR,?_⟩) | (apply IN;first | refine⟨_,GV rfl (ao rfl) (ao rfl) ZbO,?_⟩ | refine⟨_,Im rfl (ao rfl) (ao rfl) ZbO,?_⟩ | refine⟨_,WF (ao rfl) (ao rfl) rfl,?_⟩ | refine⟨_,Pj (ao rfl) (ao rfl) ZcD,?_⟩ | refine⟨_,Pk (ao rfl) (ao rfl) ZcD,?_⟩ | refine⟨_,Ph (ao rfl) (ao rfl) ZcD,?_⟩ | refine⟨_,Pi (ao rfl) (ao rfl) ZcD,?_⟩ | refine⟨_,Lv (ao rfl) (ao rfl),?_⟩ | refine⟨_,Lr (ao rfl) (ao rfl),?_⟩ | refine⟨_,Pm (ao rfl) (ao rfl) ZbI,?_⟩ | refine⟨_,Me (ao rfl) (ao rfl) ZbI,?_⟩) | (apply AbJ;first | refine⟨_,Wz (ao rfl),?_⟩ | refine⟨_,SH (ao rfl) ZbD ZbD,?_⟩) | (apply Aat;refine⟨_,A0Z (ao rfl) (ao rfl),?_⟩) | (apply Gt.min;refine⟨_,WB (ao rfl) (ao rfl),?_⟩) | (apply Aau;refine⟨_,A13 (ao rfl) rfl,?_⟩) | (apply Oe;first | refine⟨_,HK (ao rfl) (ao rfl),?_⟩ | refine⟨_,JX (ao rfl) (ao rfl),?_⟩ | refine⟨_,Oa (ao rfl) (ao rfl) (ao rfl),?_⟩ | refine⟨_,NZ (ao rfl) (ao rfl) (ao rfl),?_⟩) | (apply A3N;first | refine⟨_,Cb (ao rfl) (Aa rfl) (Aa rfl) rfl rfl rfl rfl rfl,?_⟩ | (refine DF (Aa rfl) (Aa rfl) rfl rfl rfl rfl rfl ?_;(repeat ((first | refine⟨_,Aw (ao rfl),?_⟩ | refine⟨_,Po rfl,?_⟩);refine⟨_,rfl,?_⟩));refine⟨_,rfl,?_⟩)) | (apply A8h;first | refine⟨_,GE (ao rfl) (Aa rfl) (Aa rfl) ZbD ZbD,?_⟩ | refine⟨_,QJ (ao rfl) (Aa rfl) (Aa rfl),?_⟩) | (apply Zm;first | (refine AI (Aa rfl) rfl rfl rfl ?_;(repeat ((first | refine⟨_,Aw (ao rfl),?_⟩ | refine⟨_,Po rfl,?_⟩);refine⟨_,rfl,?_⟩));refine⟨_,rfl,?_⟩) | (refine Ly (Aa rfl) (Aa rfl) rfl rfl ?_;(repeat ((first | refine⟨_,Aw (ao rfl),?_⟩ | refine⟨_,Po rfl,?_⟩);refine⟨_,rfl,?_⟩));refine⟨_,rfl,?_⟩)) | (apply Zl;first | refine⟨_,SJ (ao rfl) rfl ZcD,?_⟩ | refine⟨_,BP (ao rfl) ZcD ZbV,?_⟩));exact l.a):p:=h ⟨k⟩
theorem Go{p q:Prop}(k:q)(h:HQ q->p:=by intro l;(repeat (first | apply Ai | apply AWp.region | (apply Zn;refine Al ?_) | (apply SN;first | refine Sf ?_ | refine WO (ao rfl) (ao rfl) rfl (Aa rfl) rfl rfl rfl ?_ | refine Dd (ao rfl) (ao rfl) rfl (Aa rfl) ZbU rfl rfl ?_ | refine LA (ao rfl) (ao rfl) rfl (Aa rfl) ZbU (SetAt.mon ZbR) rfl ?_) | (apply A6C;first | refine Bx ?_ | refine WP (ao rfl) rfl rfl rfl rfl rfl ?_) | (apply Aaw;first | refine Ap ?_ | refine EA (ao rfl) rfl rfl (Aa rfl) (Aa rfl) rfl rfl Zcz Zcz rfl ZbJ rfl ?_) | (apply A8U;refine WQ (Aa rfl) (Aa rfl) rfl rfl rfl rfl rfl ?_) | (apply AbL;refine A8m (ao rfl) (ao rfl) (Aa rfl) (Aa rfl) ZbD ZbD rfl rfl rfl rfl rfl rfl ?_) | (refine De rfl rfl ?_;refine GoQ ?_) | refine ST rfl rfl rfl rfl rfl ?_ | (refine Pt rfl rfl rfl rfl rfl ?_;refine GoQ ?_) | apply OnlyN.mk' | apply AWl.nil | apply Yn | apply AWp.block | apply GW | apply Cg | apply BV | apply Ds | apply BE | apply Bh | apply DU | apply BH | apply It | apply BR | refine Zx rfl ?_ | (apply Kx;first | refine Ct ?_ | refine Cf ?_ | refine Jn (ao rfl) (Yak ZbD) ?_ | refine HO (ao rfl) (Yad ZbD) ?_ | refine Jn (ao rfl) ZcD ?_ | refine HO (ao rfl) ZcD ?_ | refine Jn (ao rfl) (by first | (simp;done) | fail) ?_ | refine HO (ao rfl) (by first | (simp;done) | fail) ?_ | refine Jn (ao rfl) Zip ?_ | refine HO (ao rfl) Zip ?_)));exact l.a):p:=h ⟨k⟩
theorem DO{p q:Prop}(k:q)(h:HQ q->p:=by intro l;(repeat (first | refine⟨_,rfl,?_⟩ | (apply A6z;refine⟨_,HStep.n rfl (Aa rfl) rfl ZbH rfl,?_⟩;refine⟨_,rfl,?_⟩) | (apply WJ;(refine Xq (AG (ah rfl)) ?_)) | (apply UD;(refine Xq (Bm (ah rfl)) ?_)) | (apply WK;first | (refine Xq (Lt (ah rfl) rfl (Aa rfl) rfl rfl) ?_) | (refine Xq (BU (ah rfl) rfl (Aa rfl) rfl rfl) ?_) | (refine Xq (JY (ah rfl) rfl (Aa rfl) rfl rfl) ?_) | (refine Xq (Mf (ah rfl) (Aa rfl) rfl rfl) ?_) | (refine Xq (SI (ah rfl) (Aa rfl) rfl rfl) ?_) | (refine Xq (Gm (ah rfl) (Aa rfl) rfl rfl) ?_) | (refine Xq (Mg (ah rfl) rfl (Aa rfl) rfl (Jm ZbR)) ?_) | (refine Xq (HL (ah rfl) (Aa rfl) rfl (HN ZbR)) ?_)) | (apply Gh.index;(refine Xq (Gn (ah rfl) (ah rfl) (Aa rfl) (Aa rfl) rfl ZbR (CellAt.mon ZbR)) ?_)) | (apply Kw;first | (refine Xq (QI (ah rfl) (Aa rfl) rfl (Aa rfl) rfl rfl) ?_) | (refine Xq (Il (ah rfl) (Aa rfl) rfl (Aa rfl) rfl) ?_)) | (apply Kv;first | (refine Xq (Ir rfl (ah rfl) (Aa rfl) (Aa rfl) rfl) ?_) | (refine Xq (CE rfl (ah rfl) (Aa rfl) (Aa rfl) rfl ZbR) ?_) | (refine Xq (Hn rfl (ah rfl) (Aa rfl) (Aa rfl) rfl rfl ZbD) ?_) | (refine Xq (MT (ah rfl) (ah rfl) (Aa rfl) (Aa rfl) ZbR) ?_) | (refine Xq (Lu (ah rfl) (ah rfl) (Aa rfl) (Aa rfl) ZbR) ?_) | (refine Xq (WE (ah rfl) (ah rfl) (Aa rfl) (Aa rfl) ZbH ZbH rfl) ?_) | (refine Xq (QH (ah rfl) (ah rfl) (Aa rfl) (Aa rfl) ZbH ZbH) ?_) | (refine Xq (Mh (ah rfl) (ah rfl) (Aa rfl) (Aa rfl) ZbR) ?_)) | (apply Gh.slice;first | (refine Xq (Ob rfl (ah rfl) (Aa rfl) (Aa rfl) rfl ZbR) ?_) | (refine Xq (NX rfl (ah rfl) (Aa rfl) (Aa rfl) rfl ZbR) ?_)) | (apply A6w;first | (refine Xq (Bi rfl (Aa rfl)) ?_) | (refine Xq (QG (ah rfl) (Aa rfl)) ?_) | (refine Xq (A12 rfl (Aa rfl)) ?_)) | (apply A6A;first | (refine Xq (Ik (ah rfl) (ah rfl) ZbD) ?_) | (refine Xq (NY (ah rfl) (ah rfl) ZbD) ?_) | (refine Xq (Pn (ah rfl) (ah rfl) ZbD ZbD) ?_)) | (apply A6v;first | (refine Xq (Jj (ah rfl) (ah rfl) ZbD ZbD) ?_) | (refine Xq (Pg (ah rfl) (ah rfl) ZbD ZbD) ?_)) | (apply Gh.mul;(refine Xq (WA (ah rfl) (ah rfl) ZbD ZbD) ?_)) | (apply Gh.quo;(refine Xq (Wx (ah rfl) (ah rfl) ZbD ZbD ZbD) ?_)) | (apply A1f;first | (refine Xq (SG (ah rfl) (ah rfl) ZbD ZbD) ?_) | (refine Xq (QF (ah rfl) (ah rfl) ZbH) ?_)) | (apply Gh.or;(refine Xq (A0Y (ah rfl) (ah rfl) ZbR ZbR) ?_)) | (apply A6y;first | (refine Xq (GV rfl (ah rfl) (ah rfl) ZbO) ?_) | (refine Xq (Im rfl (ah rfl) (ah rfl) ZbO) ?_) | (refine Xq (WF (ah rfl) (ah rfl) rfl) ?_) | (refine Xq (Pj (ah rfl) (ah rfl) ZcD) ?_) | (refine Xq (Pk (ah rfl) (ah rfl) ZcD) ?_) | (refine Xq (Ph (ah rfl) (ah rfl) ZcD) ?_) | (refine Xq (Pi (ah rfl) (ah rfl) ZcD) ?_) | (refine Xq (Lv (ah rfl) (ah rfl)) ?_) | (refine Xq (Lr (ah rfl) (ah rfl)) ?_) | (refine Xq (Pm (ah rfl) (ah rfl) ZbI) ?_) | (refine Xq (Me (ah rfl) (ah rfl) ZbI) ?_)) | (apply A8T;first | (refine Xq (Wz (ah rfl)) ?_) | (refine Xq (SH (ah rfl) ZbD ZbD) ?_)) | (apply Gh.max;(refine Xq (A0Z (ah rfl) (ah rfl)) ?_)) | (apply Gh.min;(refine Xq (WB (ah rfl) (ah rfl)) ?_)) | (apply A6x;(refine Xq (A13 (ah rfl) rfl) ?_)) | (apply A2n;first | (refine Xq (HK (ah rfl) (ah rfl)) ?_) | (refine Xq (JX (ah rfl) (ah rfl)) ?_) | (refine Xq (Oa (ah rfl) (ah rfl) (ah rfl)) ?_) | (refine Xq (NZ (ah rfl) (ah rfl) (ah rfl)) ?_)) | (apply Ps;first | (refine Xq (Cb (ah rfl) (Aa rfl) (Aa rfl) rfl rfl rfl rfl rfl) ?_) | (refine Hq rfl ?_;refine DF (Aa rfl) (Aa rfl) rfl rfl rfl rfl rfl ?_;(repeat ((first | refine⟨_,Aw (ah rfl),?_⟩ | refine⟨_,Po rfl,?_⟩);refine⟨_,rfl,?_⟩));refine⟨_,rfl,?_⟩;refine⟨_,rfl,?_⟩)) | (apply WL;first | (refine Xq (GE (ah rfl) (Aa rfl) (Aa rfl) ZbD ZbD) ?_) | (refine Xq (QJ (ah rfl) (Aa rfl) (Aa rfl)) ?_)) | (apply SM;first | (refine Hq rfl ?_;refine AI (Aa rfl) rfl rfl rfl ?_;(repeat ((first | refine⟨_,Aw (ah rfl),?_⟩ | refine⟨_,Po rfl,?_⟩);refine⟨_,rfl,?_⟩));refine⟨_,rfl,?_⟩;refine⟨_,rfl,?_⟩) | (refine Hq rfl ?_;refine Ly (Aa rfl) (Aa rfl) rfl rfl ?_;(repeat ((first | refine⟨_,Aw (ah rfl),?_⟩ | refine⟨_,Po rfl,?_⟩);refine⟨_,rfl,?_⟩));refine⟨_,rfl,?_⟩;refine⟨_,rfl,?_⟩)) | (apply SL;first | (refine Xq (SJ (ah rfl) rfl ZcD) ?_) | (refine Xq (BP (ah rfl) ZcD ZbV) ?_)) | (refine⟨_,A6r rfl rfl rfl,?_⟩;refine⟨_,rfl,?_⟩) | (apply WJ;(refine⟨_,Be rfl rfl (AG (ah rfl)),?_⟩;refine⟨_,rfl,?_⟩)) | (apply UD;(refine⟨_,Be rfl rfl (Bm (ah rfl)),?_⟩;refine⟨_,rfl,?_⟩)) | (apply WK;first | (refine⟨_,Be rfl rfl (Lt (ah rfl) rfl (Aa rfl) rfl rfl),?_⟩;refine⟨_,rfl,?_⟩) | (refine⟨_,Be rfl rfl (BU (ah rfl) rfl (Aa rfl) rfl rfl),?_⟩;refine⟨_,rfl,?_⟩) | (refine⟨_,Be rfl rfl (JY (ah rfl) rfl (Aa rfl) rfl rfl),?_⟩;refine⟨_,rfl,?_⟩) | (refine⟨_,Be rfl rfl (Mf (ah rfl) (Aa rfl) rfl rfl),?_⟩;refine⟨_,rfl,?_⟩) | (refine⟨_,Be rfl rfl (SI (ah rfl) (Aa rfl) rfl rfl),?_⟩;refine⟨_,rfl,?_⟩) | (refine⟨_,Be rfl rfl (Gm (ah rfl) (Aa rfl) rfl rfl),?_⟩;refine⟨_,rfl,?_⟩) | (refine⟨_,Be rfl rfl (Mg (ah rfl) rfl (Aa rfl) rfl (Jm ZbR)),?_⟩;refine⟨_,rfl,?_⟩) | (refine⟨_,Be rfl rfl (HL (ah rfl) (Aa rfl) rfl (HN ZbR)),?_⟩;refine⟨_,rfl,?_⟩)) | (apply Gh.index;(refine⟨_,Be rfl rfl (Gn (ah rfl) (ah rfl) (Aa rfl) (Aa rfl) rfl ZbR (CellAt.mon ZbR)),?_⟩;refine⟨_,rfl,?_⟩)) | (apply Kw;first | (refine⟨_,Be rfl rfl (QI (ah rfl) (Aa rfl) rfl (Aa rfl) rfl rfl),?_⟩;refine⟨_,rfl,?_⟩) | (refine⟨_,Be rfl rfl (Il (ah rfl) (Aa rfl) rfl (Aa rfl) rfl),?_⟩;refine⟨_,rfl,?_⟩)) | (apply Kv;first | (refine⟨_,Be rfl rfl (Ir rfl (ah rfl) (Aa rfl) (Aa rfl) rfl),?_⟩;refine⟨_,rfl,?_⟩) | (refine⟨_,Be rfl rfl (CE rfl (ah rfl) (Aa rfl) (Aa rfl) rfl ZbR),?_⟩;refine⟨_,rfl,?_⟩) | (refine⟨_,Be rfl rfl (Hn rfl (ah rfl) (Aa rfl) (Aa rfl) rfl rfl ZbD),?_⟩;refine⟨_,rfl,?_⟩) | (refine⟨_,Be rfl rfl (MT (ah rfl) (ah rfl) (Aa rfl) (Aa rfl) ZbR),?_⟩;refine⟨_,rfl,?_⟩) | (refine⟨_,Be rfl rfl (Lu (ah rfl) (ah rfl) (Aa rfl) (Aa rfl) ZbR),?_⟩;refine⟨_,rfl,?_⟩) | (refine⟨_,Be rfl rfl (WE (ah rfl) (ah rfl) (Aa rfl) (Aa rfl) ZbH ZbH rfl),?_⟩;refine⟨_,rfl,?_⟩) | (refine⟨_,Be rfl rfl (QH (ah rfl) (ah rfl) (Aa rfl) (Aa rfl) ZbH ZbH),?_⟩;refine⟨_,rfl,?_⟩) | (refine⟨_,Be rfl rfl (Mh (ah rfl) (ah rfl) (Aa rfl) (Aa rfl) ZbR),?_⟩;refine⟨_,rfl,?_⟩)) | (apply Gh.slice;first | (refine⟨_,Be rfl rfl (Ob rfl (ah rfl) (Aa rfl) (Aa rfl) rfl ZbR),?_⟩;refine⟨_,rfl,?_⟩) | (refine⟨_,Be rfl rfl (NX rfl (ah rfl) (Aa rfl) (Aa rfl) rfl ZbR),?_⟩;refine⟨_,rfl,?_⟩)) | (apply A6w;first | (refine⟨_,Be rfl rfl (Bi rfl (Aa rfl)),?_⟩;refine⟨_,rfl,?_⟩) | (refine⟨_,Be rfl rfl (QG (ah rfl) (Aa rfl)),?_⟩;refine⟨_,rfl,?_⟩) | (refine⟨_,Be rfl rfl (A12 rfl (Aa rfl)),?_⟩;refine⟨_,rfl,?_⟩)) | (apply A6A;first | (refine⟨_,Be rfl rfl (Ik (ah rfl) (ah rfl) ZbD),?_⟩;refine⟨_,rfl,?_⟩) | (refine⟨_,Be rfl rfl (NY (ah rfl) (ah rfl) ZbD),?_⟩;refine⟨_,rfl,?_⟩) | (refine⟨_,Be rfl rfl (Pn (ah rfl) (ah rfl) ZbD ZbD),?_⟩;refine⟨_,rfl,?_⟩)) | (apply A6v;first | (refine⟨_,Be rfl rfl (Jj (ah rfl) (ah rfl) ZbD ZbD),?_⟩;refine⟨_,rfl,?_⟩) | (refine⟨_,Be rfl rfl (Pg (ah rfl) (ah rfl) ZbD ZbD),?_⟩;refine⟨_,rfl,?_⟩)) | (apply Gh.mul;(refine⟨_,Be rfl rfl (WA (ah rfl) (ah rfl) ZbD ZbD),?_⟩;refine⟨_,rfl,?_⟩)) | (apply Gh.quo;(refine⟨_,Be rfl rfl (Wx (ah rfl) (ah rfl) ZbD ZbD ZbD),?_⟩;refine⟨_,rfl,?_⟩)) | (apply A1f;first | (refine⟨_,Be rfl rfl (SG (ah rfl) (ah rfl) ZbD ZbD),?_⟩;refine⟨_,rfl,?_⟩) | (refine⟨_,Be rfl rfl (QF (ah rfl) (ah rfl) ZbH),?_⟩;refine⟨_,rfl,?_⟩)) | (apply Gh.or;(refine⟨_,Be rfl rfl (A0Y (ah rfl) (ah rfl) ZbR ZbR),?_⟩;refine⟨_,rfl,?_⟩)) | (apply A6y;first | (refine⟨_,Be rfl rfl (GV rfl (ah rfl) (ah rfl) ZbO),?_⟩;refine⟨_,rfl,?_⟩) | (refine⟨_,Be rfl rfl (Im rfl (ah rfl) (ah rfl) ZbO),?_⟩;refine⟨_,rfl,?_⟩) | (refine⟨_,Be rfl rfl (WF (ah rfl) (ah rfl) rfl),?_⟩;refine⟨_,rfl,?_⟩) | (refine⟨_,Be rfl rfl (Pj (ah rfl) (ah rfl) ZcD),?_⟩;refine⟨_,rfl,?_⟩) | (refine⟨_,Be rfl rfl (Pk (ah rfl) (ah rfl) ZcD),?_⟩;refine⟨_,rfl,?_⟩) | (refine⟨_,Be rfl rfl (Ph (ah rfl) (ah rfl) ZcD),?_⟩;refine⟨_,rfl,?_⟩) | (refine⟨_,Be rfl rfl (Pi (ah rfl) (ah rfl) ZcD),?_⟩;refine⟨_,rfl,?_⟩) | (refine⟨_,Be rfl rfl (Lv (ah rfl) (ah rfl)),?_⟩;refine⟨_,rfl,?_⟩) | (refine⟨_,Be rfl rfl (Lr (ah rfl) (ah rfl)),?_⟩;refine⟨_,rfl,?_⟩) | (refine⟨_,Be rfl rfl (Pm (ah rfl) (ah rfl) ZbI),?_⟩;refine⟨_,rfl,?_⟩) | (refine⟨_,Be rfl rfl (Me (ah rfl) (ah rfl) ZbI),?_⟩;refine⟨_,rfl,?_⟩)) | (apply A8T;first | (refine⟨_,Be rfl rfl (Wz (ah rfl)),?_⟩;refine⟨_,rfl,?_⟩) | (refine⟨_,Be rfl rfl (SH (ah rfl) ZbD ZbD),?_⟩;refine⟨_,rfl,?_⟩)) | (apply Gh.max;(refine⟨_,Be rfl rfl (A0Z (ah rfl) (ah rfl)),?_⟩;refine⟨_,rfl,?_⟩)) | (apply Gh.min;(refine⟨_,Be rfl rfl (WB (ah rfl) (ah rfl)),?_⟩;refine⟨_,rfl,?_⟩)) | (apply A6x;(refine⟨_,Be rfl rfl (A13 (ah rfl) rfl),?_⟩;refine⟨_,rfl,?_⟩)) | (apply A2n;first | (refine⟨_,Be rfl rfl (HK (ah rfl) (ah rfl)),?_⟩;refine⟨_,rfl,?_⟩) | (refine⟨_,Be rfl rfl (JX (ah rfl) (ah rfl)),?_⟩;refine⟨_,rfl,?_⟩) | (refine⟨_,Be rfl rfl (Oa (ah rfl) (ah rfl) (ah rfl)),?_⟩;refine⟨_,rfl,?_⟩) | (refine⟨_,Be rfl rfl (NZ (ah rfl) (ah rfl) (ah rfl)),?_⟩;refine⟨_,rfl,?_⟩)) | (apply Ps;first | (refine⟨_,Be rfl rfl (Cb (ah rfl) (Aa rfl) (Aa rfl) rfl rfl rfl rfl rfl),?_⟩;refine⟨_,rfl,?_⟩) | (refine HqG rfl rfl ?_;refine DF (Aa rfl) (Aa rfl) rfl rfl rfl rfl rfl ?_;(repeat ((first | refine⟨_,Aw (ah rfl),?_⟩ | refine⟨_,Po rfl,?_⟩);refine⟨_,rfl,?_⟩));refine⟨_,rfl,?_⟩;refine⟨_,rfl,?_⟩)) | (apply WL;first | (refine⟨_,Be rfl rfl (GE (ah rfl) (Aa rfl) (Aa rfl) ZbD ZbD),?_⟩;refine⟨_,rfl,?_⟩) | (refine⟨_,Be rfl rfl (QJ (ah rfl) (Aa rfl) (Aa rfl)),?_⟩;refine⟨_,rfl,?_⟩)) | (apply SM;first | (refine HqG rfl rfl ?_;refine AI (Aa rfl) rfl rfl rfl ?_;(repeat ((first | refine⟨_,Aw (ah rfl),?_⟩ | refine⟨_,Po rfl,?_⟩);refine⟨_,rfl,?_⟩));refine⟨_,rfl,?_⟩;refine⟨_,rfl,?_⟩) | (refine HqG rfl rfl ?_;refine Ly (Aa rfl) (Aa rfl) rfl rfl ?_;(repeat ((first | refine⟨_,Aw (ah rfl),?_⟩ | refine⟨_,Po rfl,?_⟩);refine⟨_,rfl,?_⟩));refine⟨_,rfl,?_⟩;refine⟨_,rfl,?_⟩)) | (apply SL;first | (refine⟨_,Be rfl rfl (SJ (ah rfl) rfl ZcD),?_⟩;refine⟨_,rfl,?_⟩) | (refine⟨_,Be rfl rfl (BP (ah rfl) ZcD ZbV),?_⟩;refine⟨_,rfl,?_⟩))));exact l.a):p:=h ⟨k⟩
theorem A0J(P Q:List Tm)(f:P.length<=9223372036854775807):Abs prog 17 [BS P,BS Q] (ex (.bool (JF P Q))):=by
 by_cases J:P.length=Q.length
 .refine Ab func17 λv=>?_
  rw[ntmps17];refine Go ?_;refine AC (λu d=>∃k,k<=P.length/\u=P.length-k/\(∀j,j<k->tmB (BA P j) (BA Q j)=true)/\d=⟨[(0,.d (BS P)),(1,.d (BS Q)),(4,.d (ex (.bool false))),(5,.d (ex (.int .i64 (k:Nat))))],[]⟩) ?le ⟨0,by omega,rfl,λj h=>absurd h ZbD,rfl⟩ ?round
  case le=>exact ZjP
  case round=>
   rintro u _ ⟨k,C,rfl,w,rfl⟩;by_cases A:k<P.length
   .have c:=Tr (BA P k) (BA Q k)
    cases F:tmB (BA P k) (BA Q k)with
    |true=>
     rw[F]at c;refine Go ?_;refine Dy 10 ?_;refine ZfT ?_
     refine Ah (P.length - (k + 1)) ZbD ⟨k + 1, by omega, rfl, fun j a => (by
      by_cases e:j=k
      .rw [e];exact F
      .exact w j ZbD),rfl⟩ ?_
     exact ZjP
    |false=>
     rw[F]at c
     have Y:JF P Q=false:=Py λh=>by
      have:=(LF.1 h).2 k A;rw[F]at this;cases this
     refine Go ?_;refine Dy 10 ?_;refine ZfT ?_;exact AA (Am (ResV.tmp rfl rfl) (Ae (by rw[Y])))
   .obtain rfl:k=P.length:=by omega
    have Y:JF P Q=true:=MD.2 (LF.2 ⟨J,w⟩);exact ZiC
 .have Y:JF P Q=false:=Py λh=>J (LF.1 h).1
  refine Ab func17 λv=>?_;rw[ntmps17];exact ZiC
theorem A0I(P Q:List Tm):Abs prog 17 [BS P,BS Q] (ex (.bool (JF P Q))):=by
 refine⟨Ag func17 ZbI ZbI,λs K B C L=>?_⟩;obtain⟨A,c,_,h,b,_⟩:=A2L (L 0 ZbS);exact(A0J P Q ZbD).2 s K B C L
variable{vp:Code}{vk:Exit->AS->Prop}{vc:List (Nat×AV)}{vz:List Ow}{b:Nat}
theorem EH{s0:An}(t T E:Nat)(h:Ch vc t=some (.d (ex (.slice none 0 0))))(L:T≠335)(c:0<E)(x:HU H=some b)(Y:Gf H (.row T E [])=some vz)(k:AWp P s0 n vp vk ⟨(t,.own b)::vc,vz⟩):AWp P s0 n vp vk ⟨vc,H⟩:=by
 rw[Fd Y]at k;obtain rfl:=FR x;refine⟨λa w ⟨s,W,J,I⟩=>?_⟩;have r:a.tmps.getD t undef=.slice none 0 0:=I.fr t _ h
 have Q:t<a.tmps.size:=by
  rcases YaG t a.tmps.size with B | B
  .exact B
  .simp [B,undef]at r
 have G:a.tmps[t]? = some (.slice none 0 0):=by
  rw[Yay,YaN Q]at r;rw[YaN Q];exact congrArg some r
 have M:a.put (some t) (.slice none 0 0)=a:=by
  unfold Act.put
  have:a.tmps.setIfInBounds t (.slice none 0 0)=a.tmps:=by
   apply Ydy;intro i;by_cases K:t=i
   .subst K;rw[G];simp[Q]
   .rw [YaP K]
  simp only[this]
 have := I.new (GS.Le.refl s) (dst := some t) (v := .slice none 0 0) (u := .slice none 0 0) (r := .own H.length) (ow := .row T E []) (fun d e => by cases e; rw [← I.sz]; exact Q) ⟨Yez _, by simp⟩
  ⟨[],by simp only[Yan];exact⟨by simp,.inl ⟨rfl,rfl⟩⟩,L,c,λA F=>by simp[DP]at F,λk C=>absurd C (Ybh k)⟩ (λA F=>by cases F)
 rw[M]at this;exact k.run a w ⟨s,_,J,this⟩
theorem Ip(b:Bool)(l:List Nat):Abs prog 239 [ex (.bool b),wD l] (AP (Cr (Ka b (val l)))):=by
 refine BI (Ag func239 ZbI ZbI) λs K F J r=>?_;rw[vs2 J];have B:K.getD 0 undef=.bool b:=r 0 ZbS;rw[B];exact(Iq b _ l s.w (Er (r 1 ZbS))).mono λe N ⟨y,Y,m,k,A,i,V⟩=>⟨_,A,V,λj d g _ _=>by subst d;exact Hy g i⟩
variable{vd:FuncId}{l f vo:List Nat}
theorem ZE(B:∀args w,(callFunc vd args).run prog w=.ok (.enter vd args) w)(h:∀(q A:Value) (w:World),Words w q l->Words w A f->Calls prog vd #[q,A] w λe N=>∃Y,e=.returned Y/\Words N Y vo/\Ext w N):Abs prog vd [wD l,wD f] (wD vo):=by
 refine BI B λs K F J r=>?_;rw[vs2 J];exact(h _ _ s.w (Er (r 0 ZbS)) (Er (r 1 ZbS))).mono λe N ⟨v,b,i,V⟩=>⟨_,b,V,λj d g _ _=>by subst d;exact Jz g i⟩
theorem A2x(x y:Nat)(f:(As x).length<=4398046511104)(A:(As y).length<=4398046511104):Abs prog 278 [wD (As x),wD (As y)] (wD (As (x*y))):=
 ZE (Ag func278 ZbI ZbI) fun q V w p F => by
  have:=Ks q V _ _ w p F f A;rwa [AJ,AJ]at this
theorem A3j(x y:Nat)(f:(As x).length<=4398046511104)(A:(As y).length<=4398046511104):Abs prog 275 [wD (As x),wD (As y)] (wD (As (x+y))):=
 ZE (Ag func275 ZbI ZbI) fun q V w p F => by
  have:=A0F q V _ _ w p F f A;rwa [AJ,AJ]at this
theorem TF(x y:Nat)(h:y<=x)(f:(As x).length<=4398046511104):Abs prog 277 [wD (As x),wD (As y)] (wD (As (x-y))):=
 ZE (Ag func277 ZbI ZbI) fun q V w p F => by
  have:=A0C q V _ _ w p F (by rw[AJ,AJ];exact h) (BQ h) f;rwa [AJ,AJ]at this
theorem Yl(x y:Nat)(f:(As x).length<=4398046511103)(F:y≠0):Abs prog 282 [wD (As x),wD (As y)] (FY [wD (As (x/y)),wD (As (x%y))]):=by
 refine BI (Ag func282 ZbI ZbI) λs K G J r=>?_;rw[vs2 J];refine(Ku _ _ x y s.w (Er (r 0 ZbS)) (Er (r 1 ZbS)) f F).mono λe N ⟨A,I,n,c,g,l,b,B,C,V⟩=>⟨_,b,V,λj d L _ _=>?_⟩;subst d;refine⟨_,rfl,rfl,λk E=>?_⟩;have E:k<2:=E
 match k,E with
 |0,_=>exact⟨_,rfl,Jz L B⟩
 |1,_=>exact⟨_,rfl,Jz L C⟩
theorem Hl(x y:Int)(f:(As x.natAbs).length<=4398046511104)(j:(As y.natAbs).length<=4398046511104):Abs prog 215 [AP (Cr x),AP (Cr y)] (AP (Cr (x*y))):=by
 have l:=Ip (decide (x<0) != decide (y<0)) (As (x.natAbs*y.natAbs));rw[AJ,show Ka (decide (x<0) != decide (y<0)) (x.natAbs*y.natAbs)=x*y from UX x y]at l;refine Ab func215 λv=>?_;rw[ntmps215];apply Y1;refine Bx ?_;refine Bx ?_;refine Al ?_;refine Y0<|Ai ?_
 refine Dy 11 ?_;refine Xq AB ?_;refine Xq Ar ?_;refine Xq AB ?_;refine Xq Ar ?_;refine Xq A3B ?_;refine Xq AB ?_;refine Xq Ar ?_;refine Xq AB ?_;refine Xq Ar ?_;refine Xq (AK (A2x x.natAbs y.natAbs f j)) ?_;refine Xq (AK (l)) ?_;refine⟨_,rfl,?_⟩;refine Sf ?_;refine Y0<|BV ?_
 exact ZjQ
theorem A2W(x:Int):Abs prog 279 [AP (Cr x)] (AP (Cr (-x))):=by
 have l:=Ip (!decide (x<0)) (As x.natAbs);rw[AJ,A1G]at l;refine Ab func279 λv=>?_;rw[ntmps279];exact ZfA
theorem A2X(x y:Int)(f:(As x.natAbs).length<=4398046511104)(j:(As y.natAbs).length<=4398046511104):Abs prog 214 [AP (Cr x),AP (Cr y)] (AP (Cr (x+y))):=by
 have E:=Ip (decide (x<0));have d:=Ip (decide (y<0));by_cases h:decide (x<0)=decide (y<0)
 .have F:(decide (x<0)==decide (y<0))=true:=by simp [h]
  have c:=E (As (x.natAbs+y.natAbs));rw[AJ,UY h]at c;refine Ab func214 λv=>?_;rw[ntmps214];refine Go ?_;refine Dy 8 ?_;have w:=A3j x.natAbs y.natAbs f j;exact Zjg
 .have F:(decide (x<0)==decide (y<0))=false:=by simp [h]
  by_cases Q:x.natAbs<y.natAbs
  .have I:Fx x.natAbs y.natAbs<0:=by rw [Fx, Yan Q];decide
   have c:=d (As (y.natAbs-x.natAbs));rw[AJ,ZS h ZbD]at c;refine Ab func214 λv=>?_;rw[ntmps214];have o:=HA x.natAbs y.natAbs;refine Go ?_;refine Dy 8 ?_;have i:=TF y.natAbs x.natAbs ZbD j;exact Zjg
  .have I:¬Fx x.natAbs y.natAbs<0:=by rw [Fx, Yai Q];split<;>decide
   have c:=E (As (x.natAbs-y.natAbs));rw[AJ,ZT h ZbD]at c;refine Ab func214 λv=>?_;rw[ntmps214];have R:=HA x.natAbs y.natAbs;refine Go ?_;refine Dy 8 ?_;have N:=TF x.natAbs y.natAbs ZbD f;exact Zjg
variable{vB:Array Value}{z u uk:Value}{w:World}
theorem A2G{d B v:ResultVar}(h:vP.results=#[d,B,v])(r:(Fk vB d).run P w=.ok z w)(l:(Fk vB B).run P w=.ok u w)(i:(Fk vB v).run P w=.ok uk w):(results vP vB).run P w=.ok (.tuple #[z,u,uk]) w:=by
 have key:(results vP vB).run P w=((Fk vB d).run P w).andThen λa N=>((Fk vB B).run P N).andThen λb L=>((Fk vB v).run P L).andThen λc A=>.ok (.tuple #[a,b,c]) A:=by
  unfold results;rw[h];cases d<;>cases B<;>cases v<;>simp[Fk,Mv]
 rw[key,r,Result.andThen_ok,l,Result.andThen_ok,i,Result.andThen_ok]
variable{vw uq xa:D}
theorem YS{d w G:ResultVar}(h:ResV P ve d r)(b:ResV P ve w vw)(L:ResV P ve G uq)(J:D.le (FY [r,vw,uq]) xa):Rets P ve #[d,w,G] xa:=⟨λbase W s x E t B R=>by
 obtain⟨v,Z,A⟩:=h.run base W s x B R;obtain⟨Y,H,K⟩:=b.run base W s x B R;obtain⟨I,f,F⟩:=L.run base W s x B R;refine⟨_,A2G t Z H f,J s _ ⟨_,rfl,rfl,λk C=>?_⟩⟩;have C:k<3:=C
 match k,C with
 |0,_=>exact⟨_,rfl,A⟩
 |1,_=>exact⟨_,rfl,K⟩
 |2,_=>exact⟨_,rfl,F⟩⟩
theorem RI(x y:Int)(f:(As x.natAbs).length<=4398046511103)(O:y≠0)(X:x.natAbs%y.natAbs=0):Abs prog 225 [AP (Cr x),AP (Cr y)] (FY [AP (Cr (x/y)),AP (Cr (x%y)),ex (.int .i64 0)]):=by
 have J:¬(As y.natAbs).length=0:=λe=>O (by have:=Bs.1 e;omega);have A:=Yk O (.inr X);have m:=Yl x.natAbs y.natAbs f ZbD;have L:=Ip (decide (x<0) != decide (y<0)) (As (x.natAbs/y.natAbs));have B:=Ip false (As (x.natAbs%y.natAbs));rw[AJ,show Ka (decide (x<0) != decide (y<0)) (x.natAbs/y.natAbs)=x/y from A.1.symm]at L;rw[AJ,<-A.2]at B;have c:¬0<(As (x.natAbs%y.natAbs)).length:=by rw[X,BL];exact Ycf 0
 by_cases E:x<0
 .rw [Yak E]at L
  rw[show Cr x=[ex (.bool true),wD (As x.natAbs)]by rw[Cr,Yak E]];refine Ab func225 λv=>?_;rw[ntmps225];exact ZgG
 .rw [Yad E]at L
  rw[show Cr x=[ex (.bool false),wD (As x.natAbs)]by rw[Cr,Yad E]];refine Ab func225 λv=>?_;rw[ntmps225];exact ZgG
variable{s:GS}{a j:Int}
theorem A9S{e:Ending}(h:A65 a j w e s.w)(G:s.Ok):∃v,e=.returned v/\Ext w s.w/\(FY [AP (Cr a),AP (Cr j),ex (.int .i64 0)]).rel s v:=by
 obtain⟨b,y,A,K,n,c,g,l,F,B,C,V⟩:=h;refine⟨_,F,V,_,rfl,rfl,λk E=>?_⟩;have E:k<3:=E
 match k,E with
 |0,_=>exact⟨_,rfl,Hy G B⟩
 |1,_=>exact⟨_,rfl,Hy G C⟩
 |2,_=>exact⟨_,rfl,rfl⟩
variable{uA uH:Int}
theorem A9T(i:∀args w,(callFunc vd args).run prog w=.ok (.enter vd args) w)(h:∀(b y:Bool) (A O:Option Addr) (n c g l:Nat) (w:World),IsInt w (.bool b) (.slice A n c) a->IsInt w (.bool y) (.slice O g l) j->Calls prog vd #[.agg #[.bool b,.slice A n c],.agg #[.bool y,.slice O g l]] w (A65 uA uH w)):Abs prog vd [AP (Cr a),AP (Cr j)] (FY [AP (Cr uA),AP (Cr uH),ex (.int .i64 0)]):=by
 refine BI i λs K I J r=>?_;rw[vs2 J];obtain⟨t,f,R,W,m,F⟩:=DS (r 0 ZbS);obtain⟨Y,k,S,M,Z,B⟩:=DS (r 1 ZbS);rw[m,Z];refine(h t Y f k R W S M s.w F B).mono λe N X=>?_;obtain⟨b,y,A,O,n,c,g,l,E,B,C,V⟩:=id X;refine⟨_,E,V,λG d Q _ _=>?_⟩;subst d;obtain⟨v,r,_,L⟩:=A9S X Q;rw[E]at r;cases r;exact L
theorem VJ(x y:Int)(f:(As x.natAbs).length<=4398046511104)(j:(As y.natAbs).length<=4398046511104)(O:y≠0)(X:x.natAbs%y.natAbs=0):Abs prog 291 [AP (Cr x),AP (Cr y)] (FY [AP (Cr (x/y)),AP (Cr (x%y)),ex (.int .i64 0)]):=
 A9T (Ag func291 ZbI ZbI) λb B A K n c g l w h C=>VM b B A K n c g l x y w h C f j O (.inr X)
theorem Et{q:Rat}(f:q.num=a)(e:(q.den:Int)=j):Cr a++Cr j=DA q:=by
 rw[DA,f,e];rfl
theorem Ym:As 1=[1]:=by rw[Fh ZbH,show 1/BB=0 from rfl,BL];rfl
theorem A7c(h:(As a.natAbs).length=1):(As a.natAbs).getD 0 0=a.natAbs:=by
 obtain⟨w,d⟩:∃w,As a.natAbs=[w]:=List.length_eq_one_iff.1 h;have:=AJ a.natAbs;rw[d]at this ⊢;have B:w+BB*0=a.natAbs:=this;show w=_;omega
theorem A9H(h:a<0):Cr a=[ex (.bool true),wD (As a.natAbs)]:=by rw[Cr,Yak h]
theorem A9I(h:¬a<0):Cr a=[ex (.bool false),wD (As a.natAbs)]:=by rw[Cr,Yad h]
theorem Qt(z:Int):Abs prog 285 [AP (Cr z)] (ex (.bool (decide (z=1)))):=by
 by_cases o:z<0
 .rw [Yad (show ¬z=1 by omega), A9H o]
  refine Ab func285 λv=>?_;rw[ntmps285];exact Zfu
 .rw [A9I o]
  by_cases A:(As z.natAbs).length=1
  .have B:=A7c A
   have c:(0:Nat)<(As z.natAbs).length:=by omega
   have C:decide (z=1)=decide ((((As z.natAbs).getD 0 0:Nat):Int)=1):=YcT.2 (by rw[B];omega);rw[C];refine Ab func285 λv=>?_;rw[ntmps285];apply Y1;refine Bx ?_;refine Wa<|Y0<|Y1 ?_;refine Wq AB ?_;refine Wq Ar ?_;refine Wq GR ?_;refine Wm ?_;refine Wg AB ?_;refine Wg Ar ?_;refine Wg QE ?_;refine Wg Bb ?_;refine Wq Cz ?_;refine Wm ?_;refine Wg AB ?_;refine Wg Ar ?_;refine Wg (Mh (l:=As z.natAbs) (k:=0) (ao rfl) (ao rfl) (Aa rfl) (Aa rfl) c) ?_;refine Wg AT ?_;refine Wg Ci ?_;refine Wq Cz ?_;refine Wa<|Y0<|BV ?_
   exact Yf
  .have E:¬z=1:=λe=>A (by rw [e]; exact congrArg List.length Ym)
   rw[Yad E];refine Ab func285 λv=>?_;rw[ntmps285];exact Zfu
theorem EX(z:Int)(c:-9223372036854775808<=z)(A:z<=9223372036854775807):Abs prog 70 [ex (.int .i64 z)] (AP (DA (z:Rat))):=by
 refine Ab func70 λv=>?_;rw[ntmps70];have i:=Kt z c A;have R:=Kt 1 ZbD ZbD;refine Go ?_;exact AA (Am (ResV.cell rfl rfl (Aa rfl) rfl rfl rfl) (Ae (congrArg AP (Et rfl rfl))))
theorem EN(p:Rat):Abs prog 137 [AP (DA p)] (ex (.int .i64 p.num.sign)):=by
 rw[<-Et (q:=p) rfl rfl];refine Ab func137 λv=>?_;rw[ntmps137];have N:=FL p.num;exact Zfu
theorem Gr(p:Rat):Abs prog 140 [AP (DA p)] (ex (.int .i64 p.num.sign)):=by
 rw[<-Et (q:=p) rfl rfl];refine Ab func140 λv=>?_;rw[ntmps140];have w:=Pr p.num;exact Zfu
theorem RH(x y:Int)(f:(As x.natAbs).length<=4398046511104)(j:(As y.natAbs).length<=4398046511104)(O:0<y):Abs prog 322 [AP (Cr x),AP (Cr y)] (AP (DA (Rat.divInt x y))):=by
 have L:=Qt y;by_cases A:y=1
 .subst A
  have e:=A0s x;rw[Yak rfl]at L;refine Ab func322 λv=>?_;rw[ntmps322];exact Zhl
 .rw [Yad A]at L
  have d:=Qy x y f j;have E:=Qt (Nat.gcd x.natAbs y.natAbs:Nat);have G:=DL (x:=x) O;have H:0<Nat.gcd x.natAbs y.natAbs:=Nat.gcd_pos_of_pos_right _ ZbD;have o:(As ((Nat.gcd x.natAbs y.natAbs:Nat):Int).natAbs).length<=4398046511104:=Yat (BQ (Ydz ZbD (YbJ _ _))) j;by_cases B:((Nat.gcd x.natAbs y.natAbs:Nat):Int)=1
  .have e:=Sm (x:=x) O ZbD
   rw[Yak B]at E;refine Ab func322 λv=>?_;rw[ntmps322];exact Zhl
  .rw [Yad B]at E
   have Z:=VJ x (Nat.gcd x.natAbs y.natAbs:Nat) f o ZbD (YbW (YcB _ _));have K:=VJ y (Nat.gcd x.natAbs y.natAbs:Nat) j o ZbD (YbW (YbJ _ _));refine Ab func322 λv=>?_;rw[ntmps322];refine Go ?_;exact AA (Am (ResV.cell rfl rfl (Aa rfl) rfl rfl rfl) (Ae (congrArg AP (Et G.1 G.2))))
def pk(l:List Int):Nat->Int
 |0=>1
 |k+1=>pk l k*l.getD k default
theorem Xs(x y:Int)(N M:Nat)(E:(As x.natAbs).length<=N)(O:(As y.natAbs).length<=M)(R:N<=4398046511104)(I:M<=4398046511104):Abs prog 234 [slD 109 2 ([x,y].map Cr)] (AP (Cr (x*y))):=by
 have e:pk [x,y] 2=x*y:=by
  show 1*x*y=x*y;rw[Yeh]
 have G:(As (1:Int).natAbs).length<=1:=by rw[show(1:Int).natAbs=1 from rfl,Ym];exact Yah 1
 refine Ab func234 λv=>?_;rw[ntmps234];have w:=Vu 1 ZbD ZbD;refine Go ?_;refine AC (λu d=>∃k,k<=2/\u=2-k/\d=⟨[(2,.ptr 0 0),(3,.ptr 1 0),(7,.d (slD 109 2 ([x,y].map Cr))),(8,.d (ex (.int .i64 ((2:Nat):Int)))),(9,.d (ex (.int .i64 (k:Nat))))],[.var 109 ([ex (.bool false),ex (.slice none 0 0)].map .d),.var 109 ((Cr (pk [x,y] k)).map .d)]⟩) ?le ⟨0,by omega,rfl,rfl⟩ ?round
 case le=>exact Ac Zci Zcu
 case round=>
  rintro u _ ⟨k,C,rfl,rfl⟩;by_cases Q:k<2
  .have C:k<[x,y].length:=Q
   have J:pk [x,y] (k+1)=pk [x,y] k*[x,y].getD k default:=rfl
   have n:(As (pk [x,y] k).natAbs).length<=4398046511104:=by
    have:k=0\/k=1:=by omega
    rcases this with rfl | rfl
    .exact Yat G ZbD
    .rw [show pk [x,y] 1=1*x from rfl,Yeh];omega
   have K:(As ([x,y].getD k default).natAbs).length<=4398046511104:=by
    have:k=0\/k=1:=by omega
    rcases this with rfl | rfl
    .show (As x.natAbs).length<=_;omega
    .show (As y.natAbs).length<=_;omega
   have L:=Qt ([x,y].getD k default);have F:=Qt (pk [x,y] k);have Z:=VD (pk [x,y] k) ([x,y].getD k default) n K;by_cases A:[x,y].getD k default=1
   .rw [Yak A]at L
    rw[A,Int.mul_one]at J;refine ZgK ?_;exact Ac Zci (by exact Yv<|HpLe.cons (OwLe.varD (by rw[J]))<|HpLe.nil)
   .rw [Yad A]at L
    by_cases B:pk [x,y] k=1
    .rw [Yak B]at F
     rw[B,Yeh]at J;refine ZgK ?_;exact Ac Zci (by apply Yv;(refine HpLe.cons (OwLe.varD (by rw[J];rfl)) ?_);exact HpLe.nil)
    .rw [Yad B]at F
     refine ZgK ?_;exact Ac Zci Zcu
  .obtain rfl:k=2:=by omega
   rw[e];exact ZfA
theorem A5c(p q:Rat)(N M:Nat)(G:RSz p N)(l:RSz q M)(R:N+M<=4398046511104):Abs prog 324 [AP (DA p),AP (DA q)] (AP (DA (p*q))):=by
 have A:=p.den_pos;have B:=q.den_pos;have Q:=Fq p G;have I:=Fq q l;have F:(As p.num.natAbs).length<=N:=G.1;have n:(As q.num.natAbs).length<=M:=l.1;have L:=RH p.num q.den ZbD ZbD ZbD;have E:=RH q.num p.den ZbD ZbD ZbD;have x:=Uc p q;have b:RSz (Rat.divInt p.num q.den) 4398046511104:=RSz.divInt ZbD ZbD ZbD;have c:RSz (Rat.divInt q.num p.den) 4398046511104:=RSz.divInt ZbD ZbD ZbD;generalize Rat.divInt p.num q.den=u at L x b;generalize Rat.divInt q.num p.den=v at E x c;have Z:=Xs u.num v.num _ _ b.1 c.1 ZbD ZbD;have K:=Xs u.den v.den _ _ (Fq u b) (Fq v c) ZbD ZbD;rw[<-Et (q:=p) rfl rfl,<-Et (q:=q) rfl rfl];rw[<-Et (q:=u) rfl rfl]at L;rw[<-Et (q:=v) rfl rfl]at E;refine Ab func324 λC=>?_;rw[ntmps324];refine Go ?_;refine Dy 13 ?_;refine ZfT ?_;exact AA (Am (ResV.cell rfl rfl (Aa rfl) rfl rfl rfl) (Ae (congrArg AP (Et x.1 (by rw[x.2];push_cast;rfl)))))
theorem A2k(x g:Int)(f:(As x.natAbs).length<=4398046511103)(P:g≠0)(X:x.natAbs%g.natAbs=0):Abs prog 280 [AP (Cr x),AP (Cr g)] (AP (Cr (x/g))):=by
 refine Ab func280 λv=>?_;rw[ntmps280];have o:=RI x g f P X;exact ZfA
theorem NJ(x y:Int)(f:(As x.natAbs).length<=4398046511103)(j:(As y.natAbs).length<=4398046511103)(O:y≠0):Abs prog 216 [AP (Cr x),AP (Cr y)] (AP (DA (Rat.divInt x y))):=by
 have G:=A0h (x:=x) O;have H:=A7t (x:=x) O;have d:=SC x y f j;have A:=Pr y
 have B:(OP x y).natAbs=Nat.gcd x.natAbs y.natAbs:=by
  unfold OP;split<;>omega
 have L:=A2k x (OP x y) f H (by rw[B];exact YbW (YcB _ _));have E:=A2k y (OP x y) j H (by rw[B];exact YbW (YbJ _ _));by_cases h:y<0
 .have Y:y.sign<0:=by rw [Ybe h];decide
  have o:=A2W (Nat.gcd x.natAbs y.natAbs:Nat);rw[show -((Nat.gcd x.natAbs y.natAbs:Nat):Int)=OP x y by rw[OP,Yan h]]at o;refine Ab func216 λv=>?_;rw[ntmps216];refine Go ?_;refine Dy 7 ?_;exact Zhh
 .have Y:¬y.sign<0:=by rw [Ybo ZbD];decide
  rw[show OP x y=((Nat.gcd x.natAbs y.natAbs:Nat):Int)by rw[OP,Yai h]]at L E G;refine Ab func216 λv=>?_;rw[ntmps216];refine Go ?_;refine Dy 7 ?_;exact Zhh
theorem A2U(x y:Int)(f:(As x.natAbs).length<=4398046511103)(j:(As y.natAbs).length<=4398046511103)(O:y≠0):Abs prog 227 [AP (Cr x),AP (Cr y)] (FY [AP (DA (Rat.divInt x y)),ex (.int .i64 0)]):=by
 have Y:¬y.sign=0:=λh=>O (Ydj.1 h);refine Ab func227 λv=>?_;rw[ntmps227];have i:=Pr y;have R:=NJ x y f j O;exact ZgQ
theorem A2V(p q:Rat)(N M:Nat)(G:RSz p N)(l:RSz q M)(R:N+M<=4398046511103):Abs prog 182 [AP (DA p),AP (DA q)] (AP (DA (p*q))):=by
 have A:=p.den_pos;have B:=q.den_pos;have Q:=Fq p G;have C:=Fq q l;have x:(As p.num.natAbs).length<=N:=G.1;have n:(As q.num.natAbs).length<=M:=l.1;have c:=FQ x n;have a:=FQ Q C;have e:((p.den:Int)*q.den)≠0:=YeE ZbD ZbD;have L:=Hl p.num q.num ZbD ZbD;have E:=Hl p.den q.den ZbD ZbD;have Z:=NJ (p.num*q.num) ((p.den:Int)*q.den) ZbD ZbD e;rw[<-A0e]at Z;rw[<-Et (q:=p) rfl rfl,<-Et (q:=q) rfl rfl];refine Ab func182 λv=>?_;rw[ntmps182];apply Y1;refine Bx ?_;refine Bx ?_;refine Al ?_;refine Y0<|Ai ?_
 refine Dy 11 ?_;refine Xq AB ?_;refine Xq AH ?_;refine Xq AB ?_;refine Xq AH ?_;refine Xq (AK (L)) ?_;refine Xq AB ?_;refine Xq AH ?_;refine Xq AB ?_;refine Xq AH ?_;refine Xq (AK (E)) ?_;refine Xq (AK (Z)) ?_;refine⟨_,rfl,?_⟩;refine Sf ?_;refine Y0<|BV ?_
 exact ZjQ
theorem ON(p q:Rat)(N M:Nat)(G:RSz p N)(l:RSz q M)(R:N+M+1<=4398046511103):Abs prog 133 [AP (DA p),AP (DA q)] (AP (DA (p+q))):=by
 have A:=p.den_pos;have B:=q.den_pos;have Q:=Fq p G;have I:=Fq q l;have x:(As p.num.natAbs).length<=N:=G.1;have n:(As q.num.natAbs).length<=M:=l.1;have c:=FQ x I;have a:=FQ n Q;have H:=FQ Q I;have F:=A20 c (Yat a ZbD);have e:((p.den:Int)*q.den)≠0:=YeE ZbD ZbD;have L:=Hl p.num q.den ZbD ZbD;have E:=Hl q.num p.den ZbD ZbD;have Z:=A2X (p.num*q.den) (q.num*p.den) ZbD ZbD;have K:=Hl p.den q.den ZbD ZbD;have C:=NJ (p.num*q.den+q.num*p.den) ((p.den:Int)*q.den) ZbD ZbD e;rw[<-Uv]at C;rw[<-Et (q:=p) rfl rfl,<-Et (q:=q) rfl rfl];refine Ab func133 λv=>?_;rw[ntmps133];apply Y1;refine Bx ?_;refine Bx ?_;refine Al ?_;refine Y0<|Ai ?_
 refine Dy 17 ?_;refine Xq AB ?_;refine Xq AH ?_;refine Xq AB ?_;refine Xq AH ?_;refine Xq (AK (L)) ?_;refine Xq AB ?_;refine Xq AH ?_;refine Xq AB ?_;refine Xq AH ?_;refine Xq (AK (E)) ?_;refine Xq (AK (Z)) ?_;refine Xq AB ?_;refine Xq AH ?_;refine Xq AB ?_;refine Xq AH ?_;refine Xq (AK (K)) ?_;refine Xq (AK (C)) ?_;refine⟨_,rfl,?_⟩;refine Sf ?_;refine Y0<|BV ?_
 exact ZjQ
def IS(i:Nat):Nat->Int:=Rm (λ_=>0) i 1
theorem A19(c:Rat)(m:Nat->Int)(P:List Tm)(N M:Nat)(I:c≠0)(l:RSz c N)(x:In8 m 0 65535)(B:PSz P M)(E:PIn P 0 65535)(n:∀t∈P,In8 (CT m t.m) 0 65535)(f:P.length<=100000)(U:N+M<=4398046511104):Abs prog 294 [AP (DA c),AP (CM m),BS P] (FY [BS (TC c m P),ex (.int .i64 0)]):=by
 have Y:c.num.sign≠0:=λe=>I (DH.1 e);refine Ab func294 λv=>?_;rw[ntmps294];have o:=EN c;refine Go ?_;refine AC (λu d=>∃k,k<=P.length/\u=P.length-k/\d=⟨[(3,.ptr 0 0),(4,.ptr 1 0),(7,.d (ex (.int .i64 0))),(8,.own 2),(19,.d (BS P)),(20,.d (ex (.int .i64 (P.length:Nat)))),(21,.d (ex (.int .i64 (k:Nat))))],[.var 111 ((DA c).map .d),.var 112 ((CM m).map .d),.row 114 12 ((TC c m (P.take k)).map Qk)]⟩) ?le ⟨0,by omega,rfl,rfl⟩ ?round
 case le=>exact Ac Zei (by exact Yv<|Yv<|Yr<|HpLe.nil)
 case round=>
  rintro u _ ⟨k,C,rfl,rfl⟩;by_cases Q:k<P.length
  .have A:=Dw Q
   have j:=QX Q;have i:=A5l m (BA P k).m x (E _ A) (n _ A);refine Go ?_;refine Dy 8 ?_;have R:=A5c c (BA P k).c N M l (B _ A) U;refine DO ?_
   (refine Ap ?_);refine ZfN ?_;exact Ac Zei Zdk
  .exact ZaK
variable{vb:List Tm}
theorem A2u(h:n<vb.length):Ov (vb.take (n+1))=Ov (vb.take n) ||| suppTo (BA vb n).m 8:=Uh _ _ h
theorem UM(P:List Tm):Ov P<256:=by
 have key:∀(P:List Tm) (s:Nat),s<256->P.foldl (λs t=>s ||| suppTo t.m 8) s<256:=by
  intro P
  induction P with
  |nil=>intro s h;exact h
  |cons t P u=>intro s h;exact u _ (Yes (n:=8) h (JB t.m 8))
 exact key P 0 ZbD
theorem A3J(P:List Tm)(f:P.length<=1000000):Abs prog 245 [BS P] (ex (.int .u8 (Ov P:Nat))):=by
 refine Ab func245 λv=>?_;rw[ntmps245];refine Go ?_;refine AC (λu d=>∃k,k<=P.length/\u=P.length-k/\d=⟨[(3,.d (ex (.int .u8 (Ov (P.take k):Nat)))),(6,.d (BS P)),(7,.d (ex (.int .i64 (P.length:Nat)))),(8,.d (ex (.int .i64 (k:Nat))))],[]⟩) ?le ⟨0,by omega,rfl,rfl⟩ ?round
 case le=>exact ZjP
 case round=>
  rintro u _ ⟨k,C,rfl,rfl⟩;by_cases Q:k<P.length
  .have A:=UM (P.take k)
   have B:=JB (BA P k).m 8;have L:=A2u Q;have w:=VF (BA P k).m;refine ZfN ?_;exact Ac (by exact FrLe.cons rfl (AVle.int (by rw[L]))<|Yd<|Yd<|Yd<|FrLe.nil) Zcc
  .exact ZaL
def KX(b:Bool)(l:List Nat):Bool:=if l.length=0 then !b else(((l.getD (l.length-1) 0:Nat):Int) != 0)
theorem RV(b:Bool)(l:List Nat)(f:l.length<=1000000000):Abs prog 303 [AP [ex (.bool b),wD l]] (ex (.bool (KX b l))):=by
 refine Ab func303 λv=>?_;rw[ntmps303];refine Go ?_;by_cases c:l.length=0
 .refine Go ?_
  exact AA (Am (ResV.tmp rfl rfl) (Ae (by rw[KX,Yan c])))
 .refine Go ?_
  exact AA (Am (ResV.tmp rfl rfl) (Ae (by rw[KX,Yai c])))
theorem QT:∀{l:List Nat},l≠[]->l.getD (l.length-1) 0≠0->Ej l=l
 |[],h,_=>absurd rfl h
 |[x],_,h=>by
  have h:x≠0:=h;simp[Ej,h]
 |x::y::l,_,h=>by
  have b:(y::l).getD ((y::l).length-1) 0≠0:=by
   have e:(x::y::l).getD ((x::y::l).length-1) 0=(y::l).getD ((y::l).length-1) 0:=by simp
   rwa [e]at h
  have u:=QT (l:=y::l) ZbS b;rw[Ej,u]
variable{p:Bool}
theorem Uf(Y:BM l)(h:KX p l=true):∃z:Int,p=decide (z<0)/\l=As z.natAbs:=by
 unfold KX at h;split at h
 .rename_i c
  obtain rfl:=YaF c;exact⟨0,by simpa using h,by simp[BL]⟩
 .rename_i c
  have A:l≠[]:=λe=>c (by rw[e];rfl);have B:l.getD (l.length-1) 0≠0:=λe=>by rw[e]at h;simp at h
  have L:l=As (val l):=by rw[<-Bn Y,QT A B]
  have S:val l≠0:=λe=>by rw[e,BL]at L;exact A L
  cases p with
  |true=>exact⟨-(val l:Int),by simp;omega,by simpa using L⟩
  |false=>exact⟨(val l:Int),by simp,by simpa using L⟩
theorem Ue(z:Int):KX (decide (z<0)) (As z.natAbs)=true:=by
 unfold KX;split
 .rename_i h
  have:=Bs.1 h;have:z=0:=by omega
  subst this;rfl
 .rename_i h
  have A:(As z.natAbs).getD ((As z.natAbs).length-1) 0≠0:=by
   have key:∀n,n≠0->(As n).getD ((As n).length-1) 0≠0:=by
    intro n
    induction n using Nat.strongRecOn with
    |_ n u=>
     intro f;rw[Fh f];by_cases c:n/BB=0
     .rw [c,BL]
      have:n%BB=n:=YaS (by have:=Nat.div_eq_zero_iff.1 c;rcases this with h | h;exact absurd h ZbH;exact h);simpa[this]using f
     .have:=u (n/BB) (Ydq (Ybz f) ZbH) c
      have C:(As (n/BB)).length≠0:=λe=>c (Bs.1 e);obtain⟨m,x⟩:∃m,(As (n/BB)).length=m+1:=⟨(As (n/BB)).length-1,by omega⟩;rw[x]at this;simp only[Yav,x,YbV,Ydm]at this ⊢;exact this
   exact key _ λe=>h (Bs.2 e)
  simp only[bne_iff_ne,ne_eq];omega
def QOk(b:Bool)(l:List Nat)(y:Bool)(m:List Nat):Prop:=∃q:Rat,b=decide (q.num<0)/\l=As q.num.natAbs/\y=decide ((q.den:Int)<0)/\m=As (q.den:Int).natAbs
theorem Qw(h:decide (a<0)=decide (j<0))(b:As a.natAbs=As j.natAbs):a=j:=by
 have A:a.natAbs=j.natAbs:=by rw[<-AJ a.natAbs,b,AJ]
 have B:(a<0)↔(j<0):=by simpa using h
 omega
theorem WG(x y:Int):QOk (decide (x<0)) (As x.natAbs) (decide (y<0)) (As y.natAbs)↔0<y/\Nat.gcd x.natAbs y.natAbs=1:=by
 constructor
 .rintro ⟨q,A,B,L,S⟩
  have Z:=Qw A B;have s:=Qw L S;subst Z;subst s;exact⟨by have:=q.den_pos;omega,q.reduced⟩
 .rintro ⟨A,B⟩
  refine⟨⟨x,y.natAbs,by omega,B⟩,rfl,rfl,?_,?_⟩
  .show decide (y<0)=decide (((y.natAbs:Nat):Int)<0)
   rw[Yad (show¬y<0 by omega),Yad ZbD]
  .show As y.natAbs=As ((y.natAbs:Nat):Int).natAbs
   rfl
variable{un:Bool}
theorem A6m(h:QOk p l un f):KX p l=true/\KX un f=true:=by
 obtain⟨q,rfl,rfl,rfl,rfl⟩:=h;exact⟨Ue _,Ue _⟩
def A4S(b:Bool)(l:List Nat)(y:Bool)(m:List Nat):List D:=[ex (.bool b),wD l,ex (.bool y),wD m]
open Classical in
theorem Rr(b:Bool)(l:List Nat)(E:Bool)(m:List Nat)(Y:BM l)(p:BM m)(f:l.length<=1000000000)(j:m.length<=1000000000):Abs prog 251 [AP (A4S b l E m)] (ex (.bool (decide (QOk b l E m)))):=by
 have L:=RV b l f;have F:=RV E m j
 cases A:KX b l with
 |false=>
  have C:¬QOk b l E m:=λh=>by rw[(A6m h).1]at A;cases A
  rw[A]at L;rw[Yad C];refine Ab func251 λv=>?_;rw[ntmps251];exact Zfu
 |true=>
  rw[A]at L
  cases B:KX E m with
  |false=>
   have C:¬QOk b l E m:=λh=>by rw[(A6m h).2]at B;cases B
   rw[B]at F;rw[Yad C];refine Ab func251 λv=>?_;rw[ntmps251];exact Zfu
  |true=>
   rw[B]at F;obtain⟨x,rfl,rfl⟩:=Uf Y A;obtain⟨y,rfl,rfl⟩:=Uf p B;by_cases O:0<y
   .have s:y.sign=1:=Ybo O
    have Z:=JP y;by_cases S:y=1
    .rw [Yak S]at Z
     rw[Yak ((WG x y).2 ⟨O,by subst S;exact Nat.gcd_one_right _⟩)];refine Ab func251 λv=>?_;rw[ntmps251];have w:=FL y;exact Zfu
    .rw [Yad S]at Z
     have P:decide (QOk (decide (x<0)) (As x.natAbs) (decide (y<0)) (As y.natAbs))=decide (((Nat.gcd x.natAbs y.natAbs:Nat):Int)=1):=by
      refine YcT.2 ((WG x y).trans ⟨λh=>by omega,λh=>⟨O,by omega⟩⟩)
     rw[P];refine Ab func251 λv=>?_;rw[ntmps251];have o:=FL y;have i:=Qy x y ZbD ZbD;have R:=JP (Nat.gcd x.natAbs y.natAbs:Nat);exact Zfu
   .have s:y.sign<=0:=Int.sign_nonpos_iff.2 ZbD
    rw[Yad λh=>O ((WG x y).1 h).1];refine Ab func251 λv=>?_;rw[ntmps251];have N:=FL y;exact Zfu
def Abu(b:Bool)(m:Nat)(y:Bool)(n:Nat):Int:=match b,y with
 |true,true=>Fx n m
 |true,false=>-1
 |false,true=>1
 |false,false=>Fx m n
theorem A3v(b y:Bool)(m n:Nat):Abs prog 259 [AP [ex (.bool b),wD (As m)],AP [ex (.bool y),wD (As n)]] (ex (.int .i64 (Abu b m y n))):=by
 cases b<;>cases y
 .refine Ab func259 λv=>?_
  rw[ntmps259];have w:=HA m n;exact Zfu
 .refine Ab func259 λv=>?_
  rw[ntmps259];exact Zfu
 .refine Ab func259 λv=>?_
  rw[ntmps259];exact Zfu
 .refine Ab func259 λv=>?_
  rw[ntmps259];have o:=HA n m;exact Zfu
theorem LU(x y:Nat):Fx x y=((x:Int)-y).sign:=by
 unfold Fx;rcases Ycl x y with h | h | h
 .rw [Yan h,Ybe ZbD]
 .subst h;simp
 .rw [Yai ZbD,Yan h,Ybo ZbD]
theorem A3f(x y:Int):Abu (decide (x<0)) x.natAbs (decide (y<0)) y.natAbs=(x-y).sign:=by
 by_cases E:x<0<;>by_cases O:y<0
 .rw [Yak E,Yak O]
  show Fx _ _=_;rw[LU];exact Zhc
 .rw [Yak E,Yad O]
  show(-1:Int)=_;rw[Ybe ZbD]
 .rw [Yad E,Yak O]
  show(1:Int)=_;rw[Ybo ZbD]
 .rw [Yad E,Yad O]
  show Fx _ _=_;rw[LU];exact Zhc
theorem A3w(x y:Int):Abs prog 259 [AP (Cr x),AP (Cr y)] (ex (.int .i64 (x-y).sign)):=by
 rw[<-A3f];exact A3v _ _ _ _
theorem A5z(x y:Int):Abs prog 233 [AP (Cr x),AP (Cr y)] (ex (.int .i64 (x-y).sign)):=by
 have E:x.sign=-1/\x<0\/x.sign=0/\x=0\/x.sign=1/\0<x:=by
  rcases YdF x 0 with h | h | h
  .exact ZjR
  .exact ZjS
  .exact ZjT
 have O:y.sign=-1/\y<0\/y.sign=0/\y=0\/y.sign=1/\0<y:=by
  rcases YdF y 0 with h | h | h
  .exact ZjR
  .exact ZjS
  .exact ZjT
 rcases(show x.sign<y.sign\/y.sign<x.sign\/(x.sign=y.sign/\x.sign<0)\/(x.sign=y.sign/\0<=x.sign)by omega)with h | h | h | h
 .refine Ab func233 λv=>?_
  rw[ntmps233];refine Go ?_;refine Dy 4 ?_;have i:=FL x;have R:=FL y;refine ZfT ?_;exact AA (Am (ResV.tmp rfl rfl) (Ae (by rw[Ybe (show x-y<0 by omega)])))
 .refine Ab func233 λv=>?_
  rw[ntmps233];refine Go ?_;refine Dy 4 ?_;have N:=FL x;have w:=FL y;refine ZfT ?_;exact AA (Am (ResV.tmp rfl rfl) (Ae (by rw[Ybo (show 0<x-y by omega)])))
 .refine Ab func233 λv=>?_
  rw[ntmps233];refine Go ?_;refine Dy 4 ?_;have p:=FL x;have q:=FL y;refine DO ?_;have r:=PP y.natAbs x.natAbs;exact ZhQ
 .refine Ab func233 λv=>?_
  rw[ntmps233];refine Go ?_;refine Dy 4 ?_;have o:=FL x;have A:=FL y;refine DO ?_;have f:=PP x.natAbs y.natAbs;exact ZhQ
theorem PA(x y:Int)(E:(As x.natAbs).length<=1000000000)(O:(As y.natAbs).length<=1000000000):Abs prog 234 [slD 109 2 [Cr x,Cr y]] (AP (Cr (x*y))):=by
 have L:=JP x;have C:=JP y;have W:=JP 1;rw[Yak rfl]at W;refine Ab func234 λv=>?_;rw[ntmps234];have l:=Vu 1 ZbD ZbD;refine Go ?_;refine AC (λu d=>∃(r:Int) (k:Nat),(u=2/\r=1/\k=0\/u=1/\r=x/\k=1\/u=0/\r=x*y/\k=2)/\d=⟨[(2,.ptr 0 0),(3,.ptr 1 0),(7,.d (slD 109 2 [Cr x,Cr y])),(8,.d (ex (.int .i64 2))),(9,.d (ex (.int .i64 (k:Nat))))],[.var 109 ([ex (.bool false),ex (.slice none 0 0)].map .d),.var 109 ((Cr r).map .d)]⟩) ?le ⟨1,0,.inl ⟨rfl,rfl,rfl⟩,rfl⟩ ?round
 case le=>exact Ac Zci Zcu
 case round=>
  rintro u _ ⟨r,k,⟨rfl,rfl,rfl⟩ | ⟨rfl,rfl,rfl⟩ | ⟨rfl,rfl,rfl⟩,rfl⟩
  .by_cases A:x=1
   .rw [Yak A]at L
    refine Go ?_;refine Ah 1 ZbD ⟨x,1,.inr (.inl ⟨rfl,rfl,rfl⟩),rfl⟩ ?_;exact Ac Zci (by apply Yv;(refine HpLe.cons (OwLe.varD (by rw[A]<;>rfl)) ?_);exact HpLe.nil)
   .rw [Yad A]at L
    refine Go ?_;refine Ah 1 ZbD ⟨x,1,.inr (.inl ⟨rfl,rfl,rfl⟩),rfl⟩ ?_;exact Ac Zci Zcu
  .by_cases B:y=1
   .rw [Yak B]at C
    refine Zhg ?_;exact Ac Zci (by apply Yv;(refine HpLe.cons (OwLe.varD (by rw[B,Int.mul_one]<;>rfl)) ?_);exact HpLe.nil)
   .rw [Yad B]at C
    by_cases A:r=1
    .rw [Yak A]at L
     refine Zhg ?_;exact Ac Zci (by apply Yv;(refine HpLe.cons (OwLe.varD (by rw[A,Yeh]<;>rfl)) ?_);exact HpLe.nil)
    .rw [Yad A]at L
     have m:=VD r y ZbD ZbD;refine Zhg ?_;exact Ac Zci Zcu
  .exact ZaM
def IC(p q:Rat):Int:=(p.num*(q.den:Int)-q.num*(p.den:Int)).sign
theorem Nn(p q:Rat)(G:RSz p 1000000000)(l:RSz q 1000000000):Abs prog 136 [AP (DA p),AP (DA q)] (ex (.int .i64 (IC p q))):=by
 have J:=p.den_pos;have n:=q.den_pos
 have E:p.num.sign=-1/\p.num<0\/p.num.sign=0/\p.num=0\/p.num.sign=1/\0<p.num:=by
  rcases YdF p.num 0 with h | h | h
  .exact ZjR
  .exact ZjS
  .exact ZjT
 have O:q.num.sign=-1/\q.num<0\/q.num.sign=0/\q.num=0\/q.num.sign=1/\0<q.num:=by
  rcases YdF q.num 0 with h | h | h
  .exact ZjR
  .exact ZjS
  .exact ZjT
 rcases(show p.num.sign<q.num.sign\/q.num.sign<p.num.sign\/p.num.sign=q.num.sign by omega)with h | h | h
 .have X:IC p q=-1:=by
   refine Ybe ?_;rcases(show(p.num<0/\0<=q.num)\/(p.num<=0/\0<q.num)by omega)with⟨A,B⟩ | ⟨A,B⟩
   .have L:p.num*(q.den:Int)<0:=Yeq A ZbD
    have S:0<=q.num*(p.den:Int):=Yco B ZbD;omega
   .have L:p.num*(q.den:Int)<=0:=Ydp A ZbD
    have S:0<q.num*(p.den:Int):=YeN B ZbD;omega
  rw[X];refine Ab func136 λv=>?_;rw[ntmps136];refine Go ?_;refine Dy 4 ?_;have w:=EN p;have o:=EN q;refine DO ?_;refine Go ?_;exact Yf
 .have X:IC p q=1:=by
   refine Ybo ?_;rcases(show(q.num<0/\0<=p.num)\/(q.num<=0/\0<p.num)by omega)with⟨A,B⟩ | ⟨A,B⟩
   .have L:q.num*(p.den:Int)<0:=Yeq A ZbD
    have S:0<=p.num*(q.den:Int):=Yco B ZbD;omega
   .have L:q.num*(p.den:Int)<=0:=Ydp A ZbD
    have S:0<p.num*(q.den:Int):=YeN B ZbD;omega
  rw[X];refine Ab func136 λv=>?_;rw[ntmps136];refine Go ?_;refine Dy 4 ?_;have i:=EN p;have R:=EN q;refine DO ?_;refine Go ?_;exact Yf
 .refine Ab func136 λv=>?_
  rw[ntmps136];refine Go ?_;refine Dy 4 ?_;have N:=EN p;have C:=EN q;refine ZfT ?_;refine Dy 13 ?_;have F:=PA p.num q.den G.1 l.2;have I:=PA q.num p.den l.1 G.2;have r:=A5z (p.num*q.den) (q.num*p.den);exact ZgY
theorem A3r(p q:Rat)(G:RSz p 1000000000)(l:RSz q 1000000000):Abs prog 230 [AP (DA p),AP (DA q)] (ex (.int .i64 (IC p q))):=by
 refine Ab func230 λv=>?_;rw[ntmps230];refine Go ?_;refine Dy 11 ?_;have o:=Zj p.num q.den (Yat G.1 ZbD) (Yat l.2 ZbD);have A:=Zj q.num p.den (Yat l.1 ZbD) (Yat G.2 ZbD);have f:=A3w (p.num*q.den) (q.num*p.den);exact ZgY
structure RTm where
 b:Bool
 l:List Nat
 b':Bool
 l':List Nat
 m:Nat->Int
instance:Inhabited RTm:=⟨⟨false,[],false,[],λ_=>0⟩⟩
def rtC(r:RTm):List D:=A4S r.b r.l r.b' r.l'++CM r.m
def KD(L:List RTm):D:=slD 114 12 (L.map rtC)
def Fj(L:List RTm)(k:Nat):RTm:=L.getD k default
def tOk(r:RTm):Prop:=QOk r.b r.l r.b' r.l'/\r.l≠[]/\In8 r.m 0 65535
def HX(L:List RTm):Prop:=∀k,k<L.length->tOk (Fj L k)/\(0<k->0<Ih (Fj L (k-1)).m (Fj L k).m)
def Ab5(L:List RTm):Prop:=∀r∈L,BM r.l/\BM r.l'/\r.l.length<=1000000000/\r.l'.length<=1000000000
theorem A4K{L:List RTm}(h:n<L.length):Fj L n∈L:=by
 unfold Fj;exact Zgc
open Classical in
theorem A18(L:List RTm)(o:Ab5 L)(f:L.length<=1000000):Abs prog 244 [KD L] (ex (.bool (decide (HX L)))):=by
 refine Ab func244 λv=>?_;rw[ntmps244];refine Go ?_;refine AC (λu d=>∃k,k<=L.length/\u=L.length-k/\(∀j,j<k->tOk (Fj L j)/\(0<j->0<Ih (Fj L (j-1)).m (Fj L j).m))/\d=⟨[(0,.d (KD L)),(5,.d (KD L)),(6,.d (ex (.int .i64 (L.length:Nat)))),(7,.d (ex (.int .i64 (k:Nat))))],[]⟩) ?le ⟨0,by omega,rfl,λj a=>absurd a (Ybh j),rfl⟩ ?round
 case le=>exact ZjP
 case round=>
  rintro u _ ⟨k,C,rfl,w,rfl⟩;by_cases Q:k<L.length
  .obtain ⟨M,N,O,Z⟩:=o _ (A4K Q)
   have A:=Rr (Fj L k).b (Fj L k).l (Fj L k).b' (Fj L k).l' M N O Z;by_cases l:QOk (Fj L k).b (Fj L k).l (Fj L k).b' (Fj L k).l'
   .rw [Yak l]at A
    obtain⟨q,b,G,J,T⟩:=id l;have E:=EN q;have F:DA q=A4S (Fj L k).b (Fj L k).l (Fj L k).b' (Fj L k).l':=by rw[b,G,J,T];rfl
    rw[F]at E;by_cases K:q=0
    .have Y:=DH.2 K
     have B:¬HX L:=λh=>(h k Q).1.2.1 (by rw[G,K];exact BL);rw[Yad B];exact Zfu
    .have Y:q.num.sign≠0:=λe=>K (DH.1 e)
     by_cases x:In8 (Fj L k).m 0 65535
     .have R:tOk (Fj L k):=⟨l, λe=>by rw [G] at e; have:=Bs.1 (by rw [e]; rfl); exact A1J K ZbD, x⟩
      rcases Yaz k with c | c
      .subst c
       have S:=KU (Fj L 0).m x;refine Go ?_;refine Dy 14 ?_;refine ZfT ?_;refine Ah (L.length-1) ZbD ⟨1,by omega,rfl,λj a=>by obtain rfl:j=0:=ZbD;exact⟨R,λh=>absurd h (Ycf _)⟩,rfl⟩ ?_;exact ZjP
      .by_cases I:0<Ih (Fj L (k-1)).m (Fj L k).m
       .have p:=KU (Fj L k).m x;refine Go ?_
        refine Dy 14 ?_;have V:=RM (Fj L (k-1)).m (Fj L k).m;refine ZfT ?_;refine Ah (L.length-(k+1)) ZbD ⟨k+1,by omega,rfl,λj a=>?_,rfl⟩ ?_
        .rcases Nat.lt_succ_iff_lt_or_eq.1 a with h | rfl
         .exact w j h
         .exact ⟨R,λ_=>I⟩
        .exact ZjP
       .have B:¬HX L:=λh=>I ((h k Q).2 c)
        rw[Yad B];have r:=KU (Fj L k).m x;refine Go ?_;refine Dy 14 ?_;have W:=RM (Fj L (k-1)).m (Fj L k).m;exact ZgY
     .have B:¬HX L:=λh=>x (h k Q).1.2.2
      rw[Yad B];have X:=XN (Fj L k).m x;exact Zfu
   .rw [Yad l]at A
    have B:¬HX L:=λh=>l (h k Q).1.1;rw[Yad B];exact Zfu
  .obtain rfl:k=L.length:=by omega
   have g:HX L:=w;rw[Yak g];exact Zfu
theorem Wf(a:Nat->Int)(h:In8 a 0 65535):Abs prog 249 [AP (CM a)] (ex (.bool true)):=by
 refine Ab func249 λv=>?_;rw[ntmps249];refine Go ?_;refine AC (λu d=>∃k,k<=8/\u=8-k/\d=⟨[(1,.ptr 0 0),(2,.d (ex (.bool false))),(3,.d (ex (.int .i64 (k:Nat))))],[.var 112 ((CM a).map .d)]⟩) ?le ⟨0,by omega,rfl,rfl⟩ ?round
 case le=>exact Ac Zcg ZcA
 case round=>
  rintro u _ ⟨k,C,rfl,rfl⟩;by_cases Q:k<8
  .have S:=h k Q
   refine Go ?_;exact Zib
  .obtain rfl:k=8:=by omega
   exact Zfu
def EC(t:Tm):RTm:=⟨decide (t.c.num<0),As t.c.num.natAbs,decide ((t.c.den:Int)<0),As (t.c.den:Int).natAbs,t.m⟩
theorem Kf(P:List Tm):BS P=KD (P.map EC):=by
 unfold BS KD;rw[Ycc];rfl
theorem Vb(h:n<vb.length):Fj (vb.map EC) n=EC (BA vb n):=by
 unfold Fj BA;rw[Yab,Yax,Yac h];simp[Yab,Yac h]
theorem A9r(t:Tm):QOk (EC t).b (EC t).l (EC t).b' (EC t).l':=⟨t.c,rfl,rfl,rfl,rfl⟩
theorem A9U(h:∀k,k<vb.length->0<k->0<lx (BA vb (k-1)).m (BA vb k).m):Dec vb:=by
 unfold Dec;rw[YcL]
 have key:∀d i,i+d+1<vb.length->0<lx (BA vb i).m (BA vb (i+d+1)).m:=by
  intro d
  induction d with
  |zero=>intro i K;have:=h (i+1) K ZbD;exact ZjF
  |succ d u=>
   intro i K;have A:=u i ZbD;have B:=h (i+(d+1)+1) K ZbD;rw[show i+(d+1)+1-1=i+d+1 by omega]at B;exact RN A B
 intro i j K a q;have A:=key (j-i-1) i ZbD;rw[show i+(j-i-1)+1=j by omega]at A;have e:∀k (C:k<vb.length),BA vb k=vb[k]:=λk C=>ZjU
 rwa [e i K,e j a]at A
theorem A9V(h:Dec vb)(C:n<vb.length)(c:0<n):0<lx (BA vb (n-1)).m (BA vb n).m:=by
 unfold Dec at h;rw[YcL]at h;have e:∀n (C:n<vb.length),BA vb n=vb[n]:=λn C=>ZjU
 rw[e _ C,e (n-1) ZbD];exact h (n-1) n ZbD C ZbD
theorem WT(h:Canon vb)(K:PIn vb 0 65535):HX (vb.map EC):=λk C=>by
 rw[Yar]at C;rw[Vb C];refine⟨⟨A9r _,λe=>?_,K _ (Dw C)⟩,λc=>?_⟩
 .have A:=h.2 _ (Dw C)
  have B:As (BA vb k).c.num.natAbs=[]:=e;have:=Bs.1 (show(As (BA vb k).c.num.natAbs).length=0 by rw[B];rfl);exact A1J A ZbD
 .rw [Vb ZbD]
  show 0<Ih (BA vb (k-1)).m (BA vb k).m;rw[<-MJ];exact A9V h.1 C c
theorem A67(i:Nat)(K:i<8):Abs prog 94 [ex (.int .i64 (i:Nat))] (FY [BS [⟨1,IS i⟩],ex (.int .i64 0)]):=by
 refine Ab func94 λv=>?_;rw[ntmps94];refine Y1<|Wa<|Wa<|Y0<|Ai<|Y1<|Wm ?_;refine Wq AN ?_;refine Wm ?_;refine Wg AQ ?_;refine Wg AN ?_;refine Wq BT ?_;refine Y0<|Cf<|Ys<|Y1 ?_;(refine De rfl rfl ?_;(refine Ly (Aa rfl) (Aa rfl) rfl rfl ?_;(repeat ((first | refine⟨_,Aw (ao rfl),?_⟩ | refine⟨_,Po rfl,?_⟩);refine⟨_,rfl,?_⟩));refine⟨_,rfl,?_⟩));refine Al ?_;refine Sf ?_;refine Y0<|Y1<|Wm ?_;refine Wq SD ?_
 refine A6I 0 (CM λ_=>0) rfl rfl rfl ?_;refine Go ?_;refine Dy 4 ?_;have A:=EX 1 ZbD ZbD;refine ZfT ?_;exact AA (Rets.of2 (ResV.tmp rfl rfl) (ResV.tmp rfl rfl) (Cn (D.le.refl _) (D.le.refl _)))
def A0f(a b:Nat->Int)(k:Nat):Nat->Int:=λj=>if j<k then a j+b j else a j
theorem A5e(a b:Nat->Int)(k:Nat):Rm (A0f a b k) k (a k+b k)=A0f a b (k+1):=by
 funext j;simp only[Rm,A0f];rcases Ycl j k with h | h | h
 .rw [Yai ZbD,Yan h,Yan ZbD]
 .subst h;simp
 .rw [Yai ZbD,Yai ZbD,Yai ZbD]
theorem A7p(a b:Nat->Int)(k:Nat):A0f a b k k=a k:=Yai (Ycf k)
theorem A3s(a b:Nat->Int)(p:In8 a 0 65535)(F:In8 b 0 65535)(h:In8 (CT a b) 0 65535):Abs prog 181 [AP (CM a),AP (CM b)] (FY [AP (CM (CT a b)),ex (.int .i64 0)]):=by
 refine Ab func181 λv=>?_;rw[ntmps181];refine Go ?_;refine AC (λu d=>∃k,k<=8/\u=8-k/\d=⟨[(2,.ptr 0 0),(3,.ptr 1 0),(4,.ptr 2 0),(6,.d (ex (.int .i64 (k:Nat))))],[.var 112 ((CM (A0f a b k)).map .d),.var 112 ((CM b).map .d),.var 112 ((CM λ_=>0).map .d)]⟩) ?le ⟨0,by omega,rfl,rfl⟩ ?round
 case le=>exact Ac Zde (by exact Yv<|Yv<|Yv<|HpLe.nil)
 case round=>
  rintro u _ ⟨k,C,rfl,rfl⟩;by_cases Q:k<8
  .have A:=A7p a b k
   have B:=p k Q;have L:=F k Q;refine Go ?_;refine Dy 8 ?_;refine ZfT ?_;refine Ah (8-(k+1)) ZbD ⟨k+1,by omega,rfl,rfl⟩ ?_;exact Ac Zde (by exact HpLe.cons (OwLe.varD (by rw[A,A5e]))<|Yv<|Yv<|HpLe.nil)
  .obtain rfl:k=8:=by omega
   refine Ai<|Y1<|Wm ?_;refine Wq AN ?_;refine Y0<|Cf<|Cg<|BE<|BR<|BH<|Yn<|Ai<|Y1 ?_;refine Wq AH ?_;refine Wq (AK (Wf (A0f a b 8) λi K=>by have:=h i K;rw[A0f,Yan K];exact this)) ?_;refine Wq GR ?_;refine Y0<|Cf<|Ys<|Y1 ?_;refine Wq AH ?_;refine Sf ?_;refine Wa<|Y0<|BV ?_
   exact AA (Rets.of2 (ResV.cell rfl rfl (Aa rfl) rfl rfl rfl) (ResV.tmp rfl rfl) (Cn (D.le.refl _) (D.le.refl _)))
variable{uh:List Tm}
theorem A9w{s t:Tm}(h:lx s.m t.m=1):Jb (s::vb) (t::uh)=s::Jb vb (t::uh):=by
 rw[Jb,Yan (show 0<lx s.m t.m by omega)]
theorem A9v{s t:Tm}(h:lx s.m t.m=-1):Jb (s::vb) (t::uh)=t::Jb (s::vb) uh:=by
 rw[Jb,Yai (show¬0<lx s.m t.m by omega),Yan (show lx s.m t.m<0 by omega)]
theorem A5d{s t:Tm}(h:lx s.m t.m=0):Jb (s::vb) (t::uh)=if s.c+t.c=0 then Jb vb uh else⟨s.c+t.c,s.m⟩::Jb vb uh:=by
 rw[Jb,Yai (show¬0<lx s.m t.m by omega),Yai (show¬lx s.m t.m<0 by omega)]
theorem Vx(Q:List Tm):Jb [] Q=Q:=by rw[Jb]
theorem A6c(P Q:List Tm)(N M:Nat)(B:PSz P N)(h:PSz Q M)(U:N+M+1<=4398046511103)(f:P.length+Q.length<=100000):Abs prog 223 [BS P,BS Q] (BS (Jb P Q)):=by
 refine Ab func223 λv=>?_;rw[ntmps223];refine Go ?_;refine AC (λu d=>∃(i k:Nat) (R:List Tm),i<=P.length/\k<=Q.length/\R++Jb (P.drop i) (Q.drop k)=Jb P Q/\R.length<=i+k/\u=(P.length-i)+(Q.length-k)/\d=⟨[(0,.d (BS P)),(1,.d (BS Q)),(5,.own 0),(6,.d (ex (.int .i64 (i:Nat)))),(7,.d (ex (.int .i64 (k:Nat))))],[.row 114 12 (R.map Qk)]⟩) ?le ⟨0,0,[],by omega,by omega,rfl,by simp,rfl,rfl⟩ ?round
 case le=>exact Ac Zcr Zdw
 case round=>
  rintro u _ ⟨i,k,R,K,C,heq,J,rfl,rfl⟩;by_cases b:i<P.length
  .have X:=GP b
   by_cases W:k<Q.length
   .have t:=GP W
    rw[X,t]at heq;have Y:=B _ (Dw b);have A:=h _ (Dw W);rcases A5n (BA P i).m (BA Q k).m with I | I | I
    .have F:Ih (BA P i).m (BA Q k).m = -1:=by rw [<-MJ];exact I
     refine Go ?_;refine Dy 24 ?_;have w:=GD (BA P i).m (BA Q k).m;refine DO ?_;refine Go ?_;refine Dy 18 ?_;have L:=GD (BA P i).m (BA Q k).m;refine DO ?_;refine Y0<|Ct<|Y1<|Wm<|Wm<|Wm ?_;refine Wq Dq ?_;refine Wq Ca ?_;refine Wq (Cb (ao rfl) (Aa rfl) (Aa rfl) rfl rfl rfl rfl rfl) ?_;(refine Ap ?_);refine Wa<|Y0<|Y1<|Wm ?_;refine Wq CJ ?_;refine Wa<|Y0<|Cg<|BE<|BH ?_
     refine Ah ((P.length-i)+(Q.length-(k+1))) ZbD ⟨i,k+1,R++[BA Q k],by omega,by omega,?_,by simp;omega,rfl,rfl⟩ ?_
     .rw [A9v I]at heq
      rw[<-heq,X];simp
     .exact Ac Zcr Zem
    .have F:Ih (BA P i).m (BA Q k).m=0:=by rw [<-MJ];exact I
     by_cases o:(BA P i).c+(BA Q k).c=0
     .have s:=DH.2 o
      refine Go ?_;refine Dy 24 ?_;have E:=GD (BA P i).m (BA Q k).m;refine ZfT ?_;refine Dy 18 ?_;have O:=GD (BA P i).m (BA Q k).m;refine ZfT ?_;refine Dy 12 ?_;have S:=ON (BA P i).c (BA Q k).c N M Y A U;refine DO ?_;have V:=Gr ((BA P i).c+(BA Q k).c);refine Go ?_;refine Ah ((P.length-(i+1))+(Q.length-(k+1))) ZbD ⟨i+1,k+1,R,by omega,by omega,?_,by omega,rfl,rfl⟩ ?_
      .rw [A5d I,Yan o]at heq
       exact heq
      .exact Ac Zcr Zdw
     .have s:((BA P i).c+(BA Q k).c).num.sign≠0:=λe=>o (DH.1 e)
      refine Go ?_;refine Dy 24 ?_;have p:=GD (BA P i).m (BA Q k).m;refine ZfT ?_;refine Dy 18 ?_;have q:=GD (BA P i).m (BA Q k).m;refine ZfT ?_;refine Dy 12 ?_;have r:=ON (BA P i).c (BA Q k).c N M Y A U;refine DO ?_;have Z:=Gr ((BA P i).c+(BA Q k).c);refine Go ?_;refine Dy 9 ?_;refine DO ?_
      (refine Ap ?_);refine Go ?_;refine Ah ((P.length-(i+1))+(Q.length-(k+1))) ZbD ⟨i+1,k+1,R++[⟨(BA P i).c+(BA Q k).c,(BA P i).m⟩],by omega,by omega,?_,by simp;omega,rfl,rfl⟩ ?_
      .rw [A5d I,Yai o]at heq
       rw[<-heq];simp
      .exact Ac Zcr (by refine HpLe.cons (OwLe.row (IG Qk R ⟨(BA P i).c+(BA Q k).c,(BA P i).m⟩)) ?_;exact HpLe.nil)
    .have F:Ih (BA P i).m (BA Q k).m=1:=by rw [<-MJ];exact I
     refine Go ?_;refine Dy 24 ?_;have a:=GD (BA P i).m (BA Q k).m;refine DO ?_;refine Y0<|Ct<|Y1<|Wm<|Wm<|Wm ?_;refine Wq Dq ?_;refine Wq Ca ?_;refine Wq (Cb (ao rfl) (Aa rfl) (Aa rfl) rfl rfl rfl rfl rfl) ?_;(refine Ap ?_);refine Wa<|Y0<|Y1<|Wm ?_;refine Wq CJ ?_;refine Wa<|Y0<|Cg<|BE<|BH ?_
     refine Ah ((P.length-(i+1))+(Q.length-k)) ZbD ⟨i+1,k,R++[BA P i],by omega,by omega,?_,by simp;omega,rfl,rfl⟩ ?_
     .rw [A9w I]at heq
      rw[<-heq,t];simp
     .exact Ac Zcr Zel
   .refine Go ?_
    refine Dy 24 ?_;refine DO ?_;refine Y0<|Ct<|Y1<|Wm<|Wm<|Wm ?_;refine Wq Dq ?_;refine Wq Ca ?_;refine Wq (Cb (ao rfl) (Aa rfl) (Aa rfl) rfl rfl rfl rfl rfl) ?_;(refine Ap ?_);refine Wa<|Y0<|Y1<|Wm ?_;refine Wq CJ ?_;refine Wa<|Y0<|Cg<|BE<|BH ?_
    refine Ah ((P.length-(i+1))+(Q.length-k)) ZbD ⟨i+1,k,R++[BA P i],by omega,by omega,?_,by simp;omega,rfl,rfl⟩ ?_
    .have l:Q.drop k=[]:=YaL ZbD
     rw[X,l,A1W]at heq;rw[<-heq,l,A1W];simp
    .exact Ac Zcr Zel
  .have G:P.drop i=[]:=YaL ZbD
   by_cases W:k<Q.length
   .have t:=GP W
    refine Go ?_;refine Dy 24 ?_;refine DO ?_;refine Go ?_;refine Dy 18 ?_;refine DO ?_;refine Y0<|Ct<|Y1<|Wm<|Wm<|Wm ?_;refine Wq Dq ?_;refine Wq Ca ?_;refine Wq (Cb (ao rfl) (Aa rfl) (Aa rfl) rfl rfl rfl rfl rfl) ?_;(refine Ap ?_);refine Wa<|Y0<|Y1<|Wm ?_;refine Wq CJ ?_;refine Wa<|Y0<|Cg<|BE<|BH ?_
    refine Ah ((P.length-i)+(Q.length-(k+1))) ZbD ⟨i,k+1,R++[BA Q k],by omega,by omega,?_,by simp;omega,rfl,rfl⟩ ?_
    .rw [t,G,Vx]at heq
     rw[<-heq,G,Vx];simp
    .exact Ac Zcr Zem
   .refine Go ?_
    have l:Q.drop k=[]:=YaL ZbD;exact AA (Am (ResV.tmp rfl rfl) (Ae (by rw[<-heq,G,l,Vx,YbD];rfl)))
