/- Part 18. No condition. -/
import Derived.Test.YtcikkglcoeedlaaGreatDf17
set_option linter.unusedSimpArgs false
set_option linter.unusedVariables false
set_option maxRecDepth 100000
set_option maxHeartbeats 1000000
namespace Go.Proofs.YtcikkglcoeedlaaGreat
open _root_.Go.Proofs.Tryz
open Go.RowKit
variable{vf:AS}{uw:AS->Prop}{f:AV}{vM:Array Bool}{vV:Array Field}{vs:Array TypeId}{vE:Array Value}{vW:BinOp}{o um:Bool}{vp uc:Code}{r vx up xa:D}{vl:Exit->AS->Prop}{vR:Exit->Act->World->Prop}{ub:Field}{vO:Func}{ve:FuncId}{s:GS}{a j uA uI:Int}{i:IntKind}{vm ud:List (List D)}{vc:List (Nat×AV)}{R:List AV}{v:List D}{l h vo:List Nat}{vd uK:List Oper}{vN:List Operand}{H vA:List Ow}{vb uf:List Tm}{e:Type}{vv:List e}{n b T m c k g vk un:Nat}{va:Oper}{x y vS:Operand}{P:Program}{d:TypeDesc}{t U:TypeId}{z u uk:Value}{w:World}{vJ:e->List D}
inductive AddE(e:Nat):List Oper->List Oper->Prop
 |nil:AddE e [] []
 |keep {o:Oper} {l l':List Oper} (h:AddE e l l'):AddE e (o::l) (o::l')
 |add {dd:Option Tmp} {op:Op} {ty:TypeId} {ps:String} {af:Array Edge} {gd:Option (Nat×Bool)} {l l':List Oper} (h:AddE e l l'):AddE e (⟨dd,op,ty,ps,af,gd⟩::l) (⟨dd,op,ty,ps,af.push ⟨e,.data⟩,gd⟩::l')
theorem AddE.length{e:Nat}{l l':List Oper}(h:AddE e l l'):l.length=l'.length:=by
 induction h<;>simp_all
theorem AddE.at{e:Nat}{l J:List Oper}(h:AddE e l J):∀(i:Nat) (o:Oper),l[i]? = some o->∃t,J[i]? = some t/\(t=o\/t={ o with after:=o.after.push ⟨e,.data⟩ }):=by
 induction h with
 |nil=>intro i o m;simp at m
 |keep h v=>
  intro i o m
  cases i with
  |zero=>simp at m;subst m;exact⟨_,by simp,.inl rfl⟩
  |succ i=>simpa using v i o ZdR
 |add h v=>
  intro i o m
  cases i with
  |zero=>simp at m;subst m;exact⟨_,by simp,.inr rfl⟩
  |succ i=>simpa using v i o ZdR
def Ss(e:Nat)(L g:List Oper):Bool:=
 match L[e]?,g[e]? with
 |some q,some C=>(match q.op with |.extract _ _=>true |.move _=>true |_=>false)&&q.guard.isNone&&(Bz q==Bz C) &&
  ((List.range L.length).all λi=>match L[i]?,g[i]? with
   |some o,some t=>(Bz o==Bz t)||(Bz q).all λj=>(Bz o).contains j
   |_,_=>false) &&
  ((List.range L.length).all λj=>j==e||match L[j]? with
   |some o=>(Bz o).contains e||(Bz q).contains j||q.apart L.toArray o
   |none=>false) &&
  L.all λo=>BO o.op
 |_,_=>false
theorem Yx{a:Act}(E:(∃x n,va.op=.extract x n)\/∃x,va.op=.move x):(∃v,∀w,(execOp a.eval va).run P w=.ok (.value v) w)\/∀(K:Act->World->Prop) (Q:Exit->Act->World->Prop) w,¬va.wp P a w K Q:=by
 rcases E with⟨x,n,E⟩ | ⟨x,E⟩
 case inr=>exact .inl ⟨a.eval x,λw=>by simp[execOp,E]⟩
 cases C:a.eval x with
 |tuple f=>
  cases F:f[n]? with
  |some v=>exact .inl ⟨v,λw=>by simp[execOp,E,Instr.extract,C,F]⟩
  |none=>
   refine .inr λK Q w c=>?_;simp[Oper.wp,execOp,E,Instr.extract,C,F,stuck,Oper.upon]at c
 |_=>
  refine .inr λK Q w c=>?_;simp[Oper.wp,execOp,E,Instr.extract,C,stuck,Oper.upon]at c
theorem DD{L:List Oper}(C:vM.size=L.length)(m:L[n]? = some va):n∈Region.ready .any L.toArray vM↔vM.getD n false=false/\∀k∈Bz va,vM.getD k false=true:=by
 have O:n<vM.size:=by rw[C];exact(Yae.1 m).1
 rw[mem_ready];have e:vM.getD n true=vM.getD n false:=by simp[O]
 rw[e];refine and_congr_right λ_=>⟨λ⟨t,q,A⟩ k B=>?_,λh=>⟨va,by simpa using m,λe a E=>h _ (LO a E)⟩⟩;obtain rfl:t=va:=by rw[YbP,m]at q;exact(Yag q).symm
 obtain⟨e,a,E,rfl⟩:=JS B;exact A e a E
theorem A3n(h:b∈Bz va):b∈Bz { va with after:=va.after.push ⟨n,.data⟩ }:=by
 obtain⟨x,C,E,rfl⟩:=JS h;exact LO (by simp[C]) E
theorem UC(h:b∈Bz { va with after:=va.after.push ⟨n,.data⟩ }):b∈Bz va\/b=n:=by
 obtain⟨x,C,E,rfl⟩:=JS h;rcases Array.mem_push.1 C with C | rfl
 .exact .inl (LO C E)
 .exact .inr rfl
theorem KE(e:AddE n vd uK)(F:Ss n vd uK=true)(y:∀c a w,¬vR (.panic c) a w)(xn:¬LetsOut vR):∀(f:Nat) (U:Array Bool) (a:Act) (w:World),U.size=vd.length ->
  (∀j o,vd[j]? = some o->U.getD j false=true->∀k∈Bz o,U.getD k false=true) ->
  wpAny P .any uK.toArray vR f U a w->wpAny P .any vd.toArray vR f U a w:=by
 obtain⟨oe,xu,G,xd,xi,xc,xo,xk,xC,xD⟩:∃oe xu,vd[n]? = some oe/\uK[n]? = some xu/\((∃x q,oe.op=.extract x q)\/∃x,oe.op=.move x)/\oe.guard=none/\Bz oe=Bz xu/\(∀i o S,vd[i]? = some o->uK[i]? = some S->Bz o=Bz S\/∀j∈Bz oe,j∈Bz o)/\(∀j o,vd[j]? = some o->j=n\/n∈Bz o\/j∈Bz oe\/oe.apart vd.toArray o=true)/\∀o∈vd,BO o.op=true:=by
  unfold Ss at F;split at F
  .rename_i oe xu G xd
   simp only[Yam]at F;obtain⟨⟨⟨⟨⟨A,B⟩,K⟩,Y⟩,N⟩,X⟩:=F;refine⟨oe,xu,G,xd,?_,by simpa using B,by simpa using K,λi o S m u=>?_,λj o m=>?_,λo m=>Yaj.1 X o m⟩
   .split at A
    .exact .inl ⟨_,_,by assumption⟩
    .exact .inr ⟨_,by assumption⟩
    .cases A
   .have:=Yaj.1 Y i (Ybd.2 (Yae.1 m).1)
    rw[m,u]at this;exact ZjO
   .have:=Yaj.1 N j (Ybd.2 (Yae.1 m).1)
    rw[m]at this;simp only[YaZ,Ycw]at this;simp only[Ybu]at this;rcases this with h | (h | h) | h
    .exact .inl h
    .exact .inr (.inl h)
    .exact .inr (.inr (.inl h))
    .exact .inr (.inr (.inr h))
  .cases F
 have Z:=xi;have g:=e.length;have xp:n<vd.length:=(Yae.1 G).1
 have xj:∀(j:Nat) (o:Oper) L b,vd.toArray[j]? = some o->o.op≠.select L b:=λj o L b m h=>by
  have:=xD o (YaB (i:=j) ZdR);rw[h]at this;cases this
 intro f
 induction f with
 |zero=>
  intro U a w l z h;refine⟨?_,h.2⟩;have A:=h.1;refine YdN.2 λi J=>?_;obtain⟨_,o,m,_⟩:=mem_ready.1 J;have m:vd[i]? = some o:=by simpa using m
  obtain⟨S,u,xs⟩:=e.at i o m;have xq:=(DD l m).1 J;by_cases V:i∈Region.ready .any uK.toArray U
  .rw [A]at V;cases V
  .have xh:n∈Region.ready .any uK.toArray U:=by
    rw[DD (by rw[l,g]) u]at V;rw[DD (by rw[l,g]) xd,<-xo];rcases xk i o S m u with h | h
    .exact absurd ⟨xq.1,by rw[<-h];exact xq.2⟩ V
    .refine ⟨?_,λk C=>xq.2 k (h k C)⟩
     cases T:U.getD n false with
     |false=>rfl
     |true=>
      refine absurd ⟨xq.1,λk C=>?_⟩ V;rcases xs with rfl | rfl
      .exact xq.2 k C
      .rcases UC C with C | rfl
       .exact xq.2 k C
       .exact T
   rw[A]at xh;cases xh
 |succ f p=>
  intro U a w l z h;by_cases xm:n∈Region.ready .any vd.toArray U
  .have xA:=(DD l G).1 xm
   have xF:n∈Region.ready .any uK.toArray U:=(DD (by rw[l,g]) xd).2 ⟨xA.1,by rw[<-xo];exact xA.2⟩;have A:=h.2 n xF;obtain⟨xv,xf,xs⟩:=e.at n oe G;obtain rfl:xv=xu:=Yag (xf.symm.trans xd);have xt:execOp a.eval xv=execOp a.eval oe:=by rcases xs with rfl | rfl<;>rfl
   have R:xv.guard=none:=by rcases xs with rfl | rfl<;>exact xc
   have xl:xv.dst=oe.dst:=by rcases xs with rfl | rfl<;>rfl
   unfold wpOp at A;rw[show uK.toArray[n]? = some xv by simpa using xd]at A;simp only[Region.wanted,R,if_true]at A;have A:xv.wp P a w (wpAny P .any uK.toArray vR f (U.setIfInBounds n true)) vR:=A.elim id λh=>absurd h.2 xn;rcases Yx (P:=P) (a:=a) Z with⟨v,Q⟩ | xe
   .have B:wpAny P .any uK.toArray vR f (U.setIfInBounds n true) (a.put oe.dst v) w:=by
     unfold Oper.wp at A;rw[xt,Q w,Oper.upon_value,xl]at A;exact A
    refine wpAny_first (v:=v) (show vd.toArray[n]? = some oe by simpa using G) xj (λc a w h=>absurd h (y c _ w)) f U a w (λj oj W s xb xe=>?_) xm (.inl ⟨by simp[Region.wanted,xc],Q⟩) (p _ _ _ (by simpa using l) (λj o m I k C=>?_) B)
    .have W:vd[j]? = some oj:=by simpa using W
     rcases xC j oj W with h | h | h | h
     .exact absurd h s
     .obtain ⟨x,E,xw,xG⟩:=JS h
      exact absurd xG (xe x E xw)
     .have:=xA.2 j h
      have O:j<U.size:=by rw[l];exact(Yae.1 W).1
      simp[O]at this xb;rw[this]at xb;cases xb
     .exact h
    .by_cases xz:j=n
     .subst xz
      obtain rfl:o=oe:=Yag (m.symm.trans G);exact getD_set_true (xA.2 k C)
     .rw [getD_set_ne false (λh=>xz h.symm)]at I
      exact getD_set_true (z j o m I k C)
   .exfalso
    refine xe (wpAny P .any uK.toArray vR f (U.setIfInBounds n true)) vR w ?_;unfold Oper.wp at A ⊢;rw[xt]at A
    have:∀(r:Result Next),xv.upon P a (wpAny P .any uK.toArray vR f (U.setIfInBounds n true)) vR r=oe.upon P a (wpAny P .any uK.toArray vR f (U.setIfInBounds n true)) vR r:=λr=>by
     rcases xs with rfl | rfl<;>rfl
    rwa [this]at A
  .have xB:∀i,i∈Region.ready .any vd.toArray U↔i∈Region.ready .any uK.toArray U:=λi=>by
    by_cases xg:i<vd.length
    .have m:vd[i]? = some vd[i]:=Yac xg
     obtain⟨S,u,xs⟩:=e.at i _ m;rw[DD l m,DD (by rw[l,g]) u];refine and_congr_right λxb=>⟨λh k C=>?_,λh k C=>?_⟩
     .rcases xk i _ S m u with d | d
      .exact h k (by rw[d];exact C)
      .rcases xs with rfl | rfl
       .exact h k C
       .rcases UC C with C | rfl
        .exact h k C
        .cases T:U.getD k false with
         |true=>rfl
         |false=>exact absurd ((DD l G).2 ⟨T,λj W=>h j (d j W)⟩) xm
     .rcases xs with rfl | rfl
      .exact h k C
      .exact h k (A3n C)
    .constructor
     .intro h
      obtain⟨_,o,m,_⟩:=mem_ready.1 h;have:=(Ybz.1 m).1;simp at this;exact absurd this xg
     .intro h
      obtain⟨_,o,m,_⟩:=mem_ready.1 h;have:=(Ybz.1 m).1;simp at this;exact absurd ZbG xg
   refine⟨λM=>h.1 (YdN.2 λi J=>?_),λi J=>?_⟩
   .have:=(xB i).2 J
    rw[M]at this;cases this
   .have A:=h.2 i ((xB i).1 J)
    obtain⟨_,o,m,_⟩:=mem_ready.1 J;have m:vd[i]? = some o:=by simpa using m
    obtain⟨S,u,xs⟩:=e.at i o m;have xq:=(DD l m).1 J
    have xy:∀t,yielded uK.toArray t=yielded vd.toArray t:=λt=>by
     funext j;unfold yielded;simp only[YbP]
     cases W:vd[j]? with
     |none=>
      have:uK[j]? = none:=by rw[YcN]at W ⊢;omega
      rw[this]
     |some oj=>
      obtain⟨xH,xr,xx⟩:=e.at j oj W;rw[xr];rcases xx with rfl | rfl<;>rfl
    have xE:∀j o,vd[j]? = some o->(U.setIfInBounds i true).getD j false=true->∀k∈Bz o,(U.setIfInBounds i true).getD k false=true:=λj oj H I k C=>by
     by_cases xa:j=i
     .subst xa
      obtain rfl:oj=o:=Yag (H.symm.trans m);exact getD_set_true (xq.2 k C)
     .rw [getD_set_ne false (λh=>xa h.symm)]at I
      exact getD_set_true (z j oj H I k C)
    refine wpOp_mono (λa w h=>p _ a w (by simpa using l) xE h) ?_;unfold wpOp at A ⊢;rw[show uK.toArray[i]? = some S by simpa using u]at A;rw[show vd.toArray[i]? = some o by simpa using m];rw[xy]at A;rcases xs with rfl | rfl
    .exact A
    .exact A
structure OnlyN(Q:Exit->AS->Prop)(e:Exit)(σ:AS):Prop where
 how:e=.normal
 run:Q .normal σ
theorem OnlyN.mk'(h:vl .normal vf):OnlyN vl .normal vf:=⟨rfl,h⟩
theorem Xc{s0:An}{e:Nat}(x:P.follows .mixedOrders=true)(m:AddE e vd uK)(E:Ss e vd uK=true):DrawOk P s0 n b vd.toArray uK vl (OnlyN vl):=⟨λa w h=>by
 have Q:∀j,(Array.replicate vd.toArray.size false).getD j false=false:=λj=>by
  rcases YaD j vd.length with h | h
  .simp [h]
  .simp [h]
 have Z:uK.toArray.size=vd.toArray.size:=by simp[m.length]
 rw[Z]at h;have G:∀c a w,¬GG s0 n (OnlyN vl) (.panic c) a w:=λc a w ⟨A,h,_⟩=>Zjo
 have I:¬LetsOut (GG s0 n (OnlyN vl)):=λ⟨a,w,A,h,_⟩=>Zjo
 have q:=KE m E G I _ _ _ _ ZbV (λj o _ I=>by rw[Q]at I;cases I) h
 exact wp_mono (wp_region_any x q) λex B M ⟨A,h,Z⟩=>by
  obtain⟨rfl,h⟩:=h;exact⟨A,h,Z⟩⟩
section
variable {P:Program} {hp:List Ow} {arg:Operand->AV} {dd:Option Tmp} {ty:TypeId} {ps:String} {af:Array Edge} {gd:Option (Nat×Bool)}
theorem AL{r:AV}(C:arg x=r:=by first | exact ao rfl | exact ah rfl):Quiet P hp ⟨dd,.move x,ty,ps,af,gd⟩ arg r:=AE C
theorem AaD(C:arg x=f:=by first | exact ao rfl | exact ah rfl):Quiet P hp ⟨dd,.assign x,ty,ps,af,gd⟩ arg f:=Bg C
theorem AD{n b T id off:Nat}{S r:List D}(C:arg x=.ptr id off:=by first | exact ao rfl | exact ah rfl)(s:hp[id]? = some (.var T (S.map .d)):=by exact rfl)(L:Tab P t d n b z:=by exact(Aa rfl))(e:Fa d=true:=by exact rfl)(V:A4I off n S=some r:=by exact rfl):Quiet P hp ⟨dd,.load t x,ty,ps,af,gd⟩ arg (.d (AQ r)):=Lv C s L e V
theorem Ao{n b T id off:Nat}(C:arg x=.ptr id off:=by first | exact ao rfl | exact ah rfl)(s:hp[id]? = some (.var T (v.map .d)):=by exact rfl)(L:Tab P t d n b z:=by exact(Aa rfl))(e:Fa d=false:=by exact rfl)(V:atO off v=some r:=by exact rfl):Quiet P hp ⟨dd,.load t x,ty,ps,af,gd⟩ arg (.d r):=BU C s L e V
theorem Cn{n b T id off:Nat}{r:AV}(C:arg x=.ptr id off:=by first | exact ao rfl | exact ah rfl)(s:hp[id]? = some (.var T R):=by exact rfl)(L:Tab P t d n b z:=by exact(Aa rfl))(e:Fa d=false:=by exact rfl)(F:R[off]? = some r:=by exact rfl):Quiet P hp ⟨dd,.load t x,ty,ps,af,gd⟩ arg r:=JY C s L e F
theorem Cb{ds:List D}(C:arg x=.d (Fg T ds):=by first | exact ao rfl | exact ah rfl)(L:Tab P t d n b z:=by exact(Aa rfl))(e:Fa d=true:=by exact rfl)(h:ds.length=n:=by exact rfl):Quiet P hp ⟨dd,.load t x,ty,ps,af,gd⟩ arg (.d (AQ ds)):=Mh C L e h
theorem Fc{S r:List D}(C:arg x=.d (Fg T S):=by first | exact ao rfl | exact ah rfl)(L:Tab P t d n b z:=by exact(Aa rfl))(e:Fa d=true:=by exact rfl)(V:PM n S=some r:=by exact rfl):Quiet P hp ⟨dd,.load t x,ty,ps,af,gd⟩ arg (.d (AQ r)):=Tb C L e V
theorem AT{ds:List D}(C:arg x=.d (Fg T ds):=by first | exact ao rfl | exact ah rfl)(L:Tab P t d n b z:=by exact(Aa rfl))(e:Fa d=false:=by exact rfl)(V:atO 0 ds=some r:=by exact rfl):Quiet P hp ⟨dd,.load t x,ty,ps,af,gd⟩ arg (.d r):=Gi C L e V
theorem AG{f n b g q T:Nat}{ds r:List D}(C:arg x=.d (Fg T ds):=by first | exact ao rfl | exact ah rfl)(A:Tab P t (.struct vV) n b z:=by exact(Aa rfl))(p:vV[f]? = some ub:=by exact rfl)(a:Tab P ub.type d g q u:=by exact(Aa rfl))(h:Nat.beq g 0=false:=by exact rfl)(V:Qa ub.offset ds=some r:=by exact rfl):Quiet P hp ⟨dd,.fieldAddr t x f,ty,ps,af,gd⟩ arg (.d (Fg T r)):=QY C A p a h V
theorem AC{f n b g q id off:Nat}(C:arg x=.ptr id off:=by first | exact ao rfl | exact ah rfl)(A:Tab P t (.struct vV) n b z:=by exact(Aa rfl))(p:vV[f]? = some ub:=by exact rfl)(a:Tab P ub.type d g q u:=by exact(Aa rfl))(h:Nat.beq g 0=false:=by exact rfl):Quiet P hp ⟨dd,.fieldAddr t x f,ty,ps,af,gd⟩ arg (.ptr id (off+ub.offset)):=Ik C A p a h
theorem A3S{q n b g B T s:Nat}{a:e}(C:HV hp (arg x)=some (slD T s ((a::vv).map vJ)):=by exact rfl)(N:arg y=.d (ex (.int i 0)):=by first | exact ao rfl | exact ah rfl)(L:Tab P t (.slice q) n b z:=by exact(Aa rfl))(A:Tab P q d g B u:=by exact(Aa rfl))(E:g=s:=by exact rfl):Quiet P hp ⟨dd,.indexAddr t x y,ty,ps,af,gd⟩ arg (.d (Fg T (vJ a))):=Ir C N L A E
theorem Dp[Inhabited e]{q n b g A T s k:Nat}{l:List e}(C:HV hp (arg x)=some (slD T s (l.map vJ)):=by exact rfl)(N:arg y=.d (ex (.int i (k:Nat))):=by first | exact ao rfl | exact ah rfl)(L:Tab P t (.slice q) n b z:=by exact(Aa rfl))(a:Tab P q d g A u:=by exact(Aa rfl))(E:g=s:=by exact rfl)(B:k<l.length:=by first | omega | (simp;omega)):Quiet P hp ⟨dd,.indexAddr t x y,ty,ps,af,gd⟩ arg (.d (Fg T (vJ (l.getD k default)))):=CD C N L a E B
theorem SV(C:arg x=.ptr g vk:=by first | exact ao rfl | exact ah rfl)(N:arg y=.d (ex (.int i ((un:Nat):Int))):=by first | exact ao rfl | exact ah rfl)(L:Tab P t (.array k n) b T z:=by exact(Aa rfl))(a:Tab P n d m c u:=by exact(Aa rfl))(B:un<k:=by first | omega | (simp;omega)):Quiet P hp ⟨dd,.indexAddr t x y,ty,ps,af,gd⟩ arg (.ptr g (vk+un*m)):=MV C N L a B
theorem A0Z{e n b g q len T k:Nat}(C:arg x=.d (Fg T v):=by first | exact ao rfl | exact ah rfl)(N:arg y=.d (ex (.int i ((k:Nat):Int))):=by first | exact ao rfl | exact ah rfl)(L:Tab P t (.array len e) n b z:=by exact(Aa rfl))(a:Tab P e d g q u:=by exact(Aa rfl))(B:k<len:=by first | omega | (simp;omega)):Quiet P hp ⟨dd,.indexAddr t x y,ty,ps,af,gd⟩ arg (.d (Fg T (v.drop (k*g)))):=Lw C N L a B
theorem WE{e n b g A len id off:Nat}{B:IntKind}{i:Int}(C:arg x=.ptr id off:=by first | exact ao rfl | exact ah rfl)(N:arg y=.d (ex (.int B i)):=by first | exact ao rfl | exact ah rfl)(L:Tab P t (.array len e) n b z:=by exact(Aa rfl))(a:Tab P e d g A u:=by exact(Aa rfl))(q:0<=i:=by decide)(I:i<len:=by decide):Quiet P hp ⟨dd,.indexAddr t x y,ty,ps,af,gd⟩ arg (.ptr id (off+i.toNat*g)):=QX C N L a q I
theorem NU(C:HV hp (arg x)=some (slD k g (vv.map vJ)):=by exact rfl)(N:arg y=.d (ex (.int .i64 (vk:Nat))):=by first | exact ao rfl | exact ah rfl)(L:Tab P t (.slice n) b T z:=by exact(Aa rfl))(a:Tab P n d m c u:=by exact(Aa rfl))(q:m=g:=by exact rfl)(J:vk<=vv.length:=by first | omega | (simp;omega)):Quiet P hp ⟨dd,.slice t x (some y) none none,ty,ps,af,gd⟩ arg (.d (slD k g ((vv.drop vk).map vJ))):=Oh C N L a q J
theorem BK{q n b T s:Nat}{l:List e}(C:HV hp (arg x)=some (slD T s (l.map vJ)):=by exact rfl)(L:Tab P t (.slice q) n b z:=by exact(Aa rfl)):Quiet P hp ⟨dd,.call { callee:=.builtin .len,args:=#[x],argTypes:=#[t] },ty,ps,af,gd⟩ arg (.d (ex (.int .i64 (l.length:Nat)))):=Bj C L
theorem QT{e n b:Nat}(C:arg x=.d (wD l):=by first | exact ao rfl | exact ah rfl)(L:Tab P t (.slice e) n b z:=by exact(Aa rfl)):Quiet P hp ⟨dd,.call { callee:=.builtin .len,args:=#[x],argTypes:=#[t] },ty,ps,af,gd⟩ arg (.d (ex (.int .i64 (l.length:Nat)))):=QW C L
theorem CJ{a:Nat}(C:arg x=.d (ex (.int .i64 (a:Nat))):=by first | exact ao rfl | exact ah rfl)(N:arg y=.d (ex (.int .i64 1)):=by first | exact ao rfl | exact ah rfl)(q:(a:Int)<9223372036854775807:=by omega):Quiet P hp ⟨dd,.binOp .add t x y U,ty,ps,af,gd⟩ arg (.d (ex (.int .i64 ((a+1:Nat):Int)))):=Ij C N q
theorem WF(C:arg x=.d (ex (.int .i64 a)):=by first | exact ao rfl | exact ah rfl)(N:arg y=.d (ex (.int .i64 j)):=by first | exact ao rfl | exact ah rfl)(q:-9223372036854775808<=a+j:=by omega)(A:a+j<=9223372036854775807:=by omega):Quiet P hp ⟨dd,.binOp .add t x y U,ty,ps,af,gd⟩ arg (.d (ex (.int .i64 (a+j)))):=PA C N q A
theorem A2A(C:arg x=.d (ex (.int .i64 ((n:Nat):Int))):=by first | exact ao rfl | exact ah rfl)(N:arg y=.d (ex (.int .i64 1)):=by first | exact ao rfl | exact ah rfl)(d:0<n:=by omega)(q:(n:Int)<9223372036854775807:=by omega):Quiet P hp ⟨dd,.binOp .sub t x y U,ty,ps,af,gd⟩ arg (.d (ex (.int .i64 ((n-1:Nat):Int)))):=Jo C N d q
theorem A0X(C:arg x=.d (ex (.int .i64 a)):=by first | exact ao rfl | exact ah rfl)(N:arg y=.d (ex (.int .i64 j)):=by first | exact ao rfl | exact ah rfl)(q:-9223372036854775808<=a-j:=by omega)(A:a-j<=9223372036854775807:=by omega):Quiet P hp ⟨dd,.binOp .sub t x y U,ty,ps,af,gd⟩ arg (.d (ex (.int .i64 (a-j)))):=Pu C N q A
theorem Aa8(C:arg x=.d (ex (.int .i64 a)):=by first | exact ao rfl | exact ah rfl)(N:arg y=.d (ex (.int .i64 j)):=by first | exact ao rfl | exact ah rfl)(d:0<=a:=by omega)(q:a<=9223372036854775807:=by omega)(E:0<j:=by omega):Quiet P hp ⟨dd,.binOp .quo t x y U,ty,ps,af,gd⟩ arg (.d (ex (.int .i64 (a/j)))):=WM C N d q E
theorem A6u(C:arg x=.d (ex (.int i a)):=by first | exact ao rfl | exact ah rfl)(N:arg y=.d (ex (.int i j)):=by first | exact ao rfl | exact ah rfl)(d:0<=a:=by omega)(E:0<j:=by omega):Quiet P hp ⟨dd,.binOp .rem t x y U,ty,ps,af,gd⟩ arg (.d (ex (.int i (a%j)))):=SY C N d E
theorem Bc{k:IntKind}(E:Uv vW=true:=by exact rfl)(C:arg x=.d (ex (.int k a)):=by first | exact ao rfl | exact ah rfl)(N:arg y=.d (ex (.int k j)):=by first | exact ao rfl | exact ah rfl)(F:CQ vW a j:=by first | (simp only[CQ,Yay,Ybk];omega) | (simp[CQ];done) | (simp[CQ];omega)):Quiet P hp ⟨dd,.binOp vW t x y U,ty,ps,af,gd⟩ arg (.d (ex (.bool true))):=GW E C N F
theorem AO{k:IntKind}(E:Uv vW=true:=by exact rfl)(C:arg x=.d (ex (.int k a)):=by first | exact ao rfl | exact ah rfl)(N:arg y=.d (ex (.int k j)):=by first | exact ao rfl | exact ah rfl)(F:¬CQ vW a j:=by first | (simp only[CQ,Yay,Ybk];omega) | (simp[CQ];done) | (simp[CQ];omega)):Quiet P hp ⟨dd,.binOp vW t x y U,ty,ps,af,gd⟩ arg (.d (ex (.bool false))):=Il E C N F
theorem Ci{k:IntKind}{a b:Int}(C:arg x=.d (ex (.int k a)):=by first | exact ao rfl | exact ah rfl)(N:arg y=.d (ex (.int k b)):=by first | exact ao rfl | exact ah rfl)(F:YJ vW a b=some o:=by exact rfl):Quiet P hp ⟨dd,.binOp vW t x y U,ty,ps,af,gd⟩ arg (.d (ex (.bool o))):=WT C N F
theorem A3R(C:arg x=.d (ex (.bool o)):=by first | exact ao rfl | exact ah rfl)(N:arg y=.d (ex (.bool um)):=by first | exact ao rfl | exact ah rfl)(i:P.underlying t=some .bool:=by kernel_rfl):Quiet P hp ⟨dd,.binOp .neq t x y U,ty,ps,af,gd⟩ arg (.d (ex (.bool (!(o==um))))):=Mg C N i
theorem GT(C:arg x=.d (ex (.bool o)):=by first | exact ao rfl | exact ah rfl):Quiet P hp ⟨dd,.unOp .not t x,ty,ps,af,gd⟩ arg (.d (ex (.bool (!o)))):=WO C
theorem A0Y(C:arg x=.d (ex (.int .i64 a)):=by first | exact ao rfl | exact ah rfl)(q:-9223372036854775807<=a:=by omega)(A:a<=9223372036854775807:=by omega):Quiet P hp ⟨dd,.unOp .neg t x,ty,ps,af,gd⟩ arg (.d (ex (.int .i64 (-a)))):=Ta C q A
theorem Ck{r:AV}(C:arg y=r:=by first | exact ao rfl | exact ah rfl)(F:arg x=.d (ex (.bool true)):=by first | exact ao rfl | exact ah rfl):Quiet P hp ⟨dd,.pick x y vS,ty,ps,af,gd⟩ arg r:=HK C F
theorem BT{r:AV}(N:arg vS=r:=by first | exact ao rfl | exact ah rfl)(F:arg x=.d (ex (.bool false)):=by first | exact ao rfl | exact ah rfl):Quiet P hp ⟨dd,.pick x y vS,ty,ps,af,gd⟩ arg r:=JX N F
theorem AJ{f:Operand}{ds:List D}(F:Abs P ve ds r)(p:arg f=.d (ex (.func (.func ve) #[] #[])):=by first | exact ao rfl | exact ah rfl)(l:ArgsLe hp arg vN ds:=by repeat (first | exact ArgsLe.nil | refine ArgsLe.cons rfl (D.le.refl _) ?_ | refine ArgsLe.cons rfl AM ?_)):Quiet P hp ⟨dd,.call { callee:=.value f,args:=vN.toArray,argTypes:=vs },ty,ps,af,gd⟩ arg (.d r):=BQ p F l
end
section
variable {P:Program} {s0:An} {n:Nat} {ops:Array Oper} {Q:Exit->AS->Prop} {rest:List Oper} {fr:List (Nat×AV)} {hp:List Ow} {ty:TypeId} {ps:String} {af:Array Edge} {d:Nat} {op:Op} {r:AV}
theorem Wq(k:Quiet P hp ⟨some d,op,ty,ps,af,none⟩ (AS.arg ⟨fr,hp⟩) r)(h:AWl P s0 n ops Q rest ⟨(d,r)::fr,hp⟩)(Z:BO op=true:=by exact rfl)(e:Nat.blt d n=true:=by exact rfl):AWl P s0 n ops Q (⟨some d,op,ty,ps,af,none⟩::rest) ⟨fr,hp⟩:=Df Z e ⟨r,k,h⟩
theorem Wg{j:Nat}(k:Quiet P hp ⟨some d,op,ty,ps,af,some (j,o)⟩ (AS.arg ⟨fr,hp⟩) r)(h:AWl P s0 n ops Q rest ⟨(d,r)::fr,hp⟩)(N:(ops[j]?).bind (·.dst)=some b:=by exact rfl)(I:Ch fr b=some (.d (ex (.bool o))):=by exact rfl)(A:Nat.blt b n=true:=by exact rfl)(Z:BO op=true:=by exact rfl)(e:Nat.blt d n=true:=by exact rfl):AWl P s0 n ops Q (⟨some d,op,ty,ps,af,some (j,o)⟩::rest) ⟨fr,hp⟩:=PI N I A Z e ⟨r,k,h⟩
theorem Ws{j:Nat}(h:AWl P s0 n ops Q rest ⟨(d,.d (ex undef))::fr,hp⟩)(N:(ops[j]?).bind (·.dst)=some b:=by exact rfl)(I:Ch fr b=some (.d (ex z)):=by exact rfl)(B:isB z o=false:=by exact rfl)(A:Nat.blt b n=true:=by exact rfl)(e:Nat.blt d n=true:=by exact rfl):AWl P s0 n ops Q (⟨some d,op,ty,ps,af,some (j,o)⟩::rest) ⟨fr,hp⟩:=To N I B A e h
end
section
variable {P:Program} {σ:AS} {K:List HR->Prop} {acc acc':List HR} {o:Oper} {L:List Oper} {e:List (Nat×Nat)} {es:List (List (Nat×Nat))} {r:AV}
theorem Xq(k:Quiet P σ.hp o (DT σ acc e) r)(h:HS P σ K acc' L es)(T:o.guard=none:=by exact rfl)(l:Rv acc (.av r)=some acc':=by exact rfl):HS P σ K acc (o::L) (e::es):=⟨_,HStep.q T k,_,l,h⟩
theorem Xg{b:Bool}(k:Quiet P σ.hp o (DT σ acc e) r)(h:HS P σ K acc' L es)(T:o.guard=some (n,b):=by exact rfl)(W:acc[n]? = some (.av (.d (ex (.bool b)))):=by exact rfl)(l:Rv acc (.av r)=some acc':=by exact rfl):HS P σ K acc (o::L) (e::es):=⟨_,Bb T W k,_,l,h⟩
theorem Xn(h:HS P σ K acc' L es)(B:o.guard=none:=by exact rfl)(E:o.op=.alloc n:=by exact rfl)(A:Tab P n d b T z:=by exact Aa rfl)(i:n≠335:=by decide)(q:HO z.cells.toList=true:=by exact rfl)(l:Rv acc (.new n z.cells.toList)=some acc':=by exact rfl):HS P σ K acc (o::L) (e::es):=⟨_,HStep.n B A E i q,_,l,h⟩
theorem HqG{R:HR->Prop}{b:Bool}(T:o.guard=some (n,b))(W:acc[n]? = some (.av (.d (ex (.bool b)))))(h:∃r,Quiet P σ.hp o (DT σ acc e) r/\R (.av r)):∃r,HStep P σ acc e o r/\R r:=let⟨r,q,A⟩:=h;⟨_,Bb T W q,A⟩
end
end Go.Proofs.YtcikkglcoeedlaaGreat
set_option linter.unusedSimpArgs false
set_option linter.unusedVariables false
namespace Go.Proofs.YtcikkglcoeedlaaGreat
open _root_.Go.Proofs.Tryz
open Go.RowKit
section
variable {P:Program} {s0:An} {n:Nat} {ops:Array Oper} {Q:Exit->AS->Prop} {σ:AS}
variable{uw:AS->Prop}
theorem Yn(h:uw σ):AThen uw Q .normal σ:=Kx h
theorem Y0(h:uw σ):AWl P s0 n ops (AThen uw Q) [] σ:=AWl.nil (Kx h)
variable{vp:Code}
theorem Y1{i:Nat}{l:List Oper}(h:AWl P s0 n l.toArray (AThen (AWp P s0 n vp Q) Q) l σ):AWp P s0 n (.seq (.region i l.toArray false) vp) Q σ:=Ah (AWp.region h)
theorem Ys(h:uw σ):AWp P s0 n .skip (AThen uw Q) σ:=GX (Kx h)
end
variable{vf:AS}{f:AV}{r:D}{vO:Func}{n:Nat}{P:Program}
theorem Yf(V:vO.results=#[.tmp n]:=by exact rfl)(h:Ch vf.fr n=some f:=by exact rfl)(C:HV vf.hp f=some r:=by exact rfl):Fin P vO r .ret vf:=AA (by rw[V];exact Am (ResV.tmp h C) (D.le.refl _))
theorem Ab {f : FuncId} {c : Code} {ds : List D} (p : P.funcs[f]? = some vO) (h : ∀ w, AWp P w vO.ntmps c (Fin P vO r) ⟨params 0 ds, []⟩) (E : vO.body = some c := by exact rfl) (q : (vO.name == "runtime.NumGoroutine") = false := by kernel_rfl) (A : vO.body.isNone = false := by kernel_rfl) (B : Nat.ble ds.length vO.ntmps = true := by exact rfl) : Abs P f ds r := Abs.intro p E (Ag p q A) B h
section
variable {P:Program} {s0:An} {n:Nat} {ops:Array Oper} {Q:Exit->AS->Prop} {fr:List (Nat×AV)} {hp hp':List Ow} {rest:List Oper} {ty:TypeId} {ps:String} {af:Array Edge} {d:Nat} {x:Operand} {r:AV}
theorem Wm(h:AWl P s0 n ops Q rest ⟨(d,r)::fr,hp⟩)(C:AS.arg ⟨fr,hp⟩ x=r:=by exact ao rfl)(e:Nat.blt d n=true:=by exact rfl):AWl P s0 n ops Q (⟨some d,.move x,ty,ps,af,none⟩::rest) ⟨fr,hp⟩:=Wq (AE C) h rfl e
theorem Wa(h:AWl P s0 n ops Q rest ⟨(d,r)::fr,hp⟩)(C:AS.arg ⟨fr,hp⟩ x=r:=by exact ao rfl)(e:Nat.blt d n=true:=by exact rfl):AWl P s0 n ops Q (⟨some d,.assign x,ty,ps,af,none⟩::rest) ⟨fr,hp⟩:=Wq (Bg C) h rfl e
variable{vp uc:Code}
theorem Ct(h:AWp P s0 n vp Q ⟨fr,hp⟩)(C:AS.arg ⟨fr,hp⟩ x=.d (ex (.bool true)):=by exact ao rfl):AWp P s0 n (.cond x vp uc) Q ⟨fr,hp⟩:=PK C h
theorem Cf(h:AWp P s0 n uc Q ⟨fr,hp⟩)(C:AS.arg ⟨fr,hp⟩ x=.d (ex (.bool false)):=by exact ao rfl):AWp P s0 n (.cond x vp uc) Q ⟨fr,hp⟩:=PL C h
variable{R:List AV}{z:Value}
theorem Sf{T o:TypeId}{t:TypeDesc}{b id m:Nat}{y:Operand}{ds:List D}(h:AWl prog s0 n ops Q rest ⟨fr,hp'⟩)(C:AS.arg ⟨fr,hp⟩ x=.ptr id 0:=by exact ao rfl)(N:AS.arg ⟨fr,hp⟩ y=.d (AQ ds):=by exact ao rfl)(s:hp[id]? = some (.var o R):=by exact rfl)(L:Tab prog T t m b z:=by exact Aa rfl)(q:ds.length=m:=by exact rfl)(M:R.length=m:=by exact rfl)(Z:GZ hp id (.var o (ds.map .d))=some hp':=by exact rfl):AWl prog s0 n ops Q (⟨none,.store T x y,ty,ps,af,none⟩::rest) ⟨fr,hp⟩:=A8s C N s L q M Z h
variable{d:TypeDesc}{t:TypeId}
theorem Al{m b k A:Nat}{c:List D}(h:AWl prog s0 n ops Q rest ⟨(A,.ptr k 0)::fr,hp'⟩)(L:Tab prog t d m b z:=by exact Aa rfl)(i:Nat.beq t 335=false:=by exact rfl)(q:HO z.cells.toList=true:=by exact rfl)(e:Nat.blt A n=true:=by exact rfl)(F:exO z.cells.toList=some c:=by exact rfl)(B:HT hp=some k:=by exact rfl)(Z:Gd hp (.var t (c.map .d))=some hp':=by exact rfl):AWl prog s0 n ops Q (⟨some A,.alloc t,ty,ps,af,none⟩::rest) ⟨fr,hp⟩:=Aaq L i q e F B Z h
theorem Bx{ds:List D}{k q:Nat}(h:AWl P s0 n ops Q rest ⟨(q,.ptr k 0)::fr,hp'⟩)(C:AS.arg ⟨fr,hp⟩ x=.d (AQ ds):=by exact ao rfl)(i:Nat.beq t 335=false:=by exact rfl)(e:Nat.blt q n=true:=by exact rfl)(B:HT hp=some k:=by exact rfl)(Z:Gd hp (.var t (ds.map .d))=some hp':=by exact rfl):AWl P s0 n ops Q (⟨some q,.box t x,ty,ps,af,none⟩::rest) ⟨fr,hp⟩:=Aap C i e B Z h
variable{vm ud:List (List D)}{vc:List (Nat×AV)}{x y:Operand}{u:Value}
theorem Ap{t T B s bytes id m b e:Nat}(h:AWl prog s0 n ops Q rest ⟨(e,.own id)::vc,hp'⟩)(C:AS.arg ⟨fr,hp⟩ x=.own id:=by exact ao rfl)(N:HV hp (AS.arg ⟨fr,hp⟩ y)=some (slD B s ud):=by exact rfl)(A:hp[id]? = some (.row T s vm):=by exact rfl)(L:Tab prog t (.slice T) m b u:=by exact Aa rfl)(i:Tab prog T d s bytes z:=by exact Aa rfl)(E:z.cells.size=s:=by exact rfl)(q:Nat.blt e n=true:=by exact rfl)(R:(vm.length+ud.length)*bytes<=140737488355328:=by simp;omega)(M:vm.length+ud.length<=4611686018427387904:=by simp;omega)(p:JT id (slD T s vm) fr=some vc:=by exact rfl)(g:PlainHp id hp:=by repeat (first | exact PlainHp.nil | refine PlainHp.var ?_ | refine PlainHp.row ?_ | refine PlainHp.dead ?_ | refine PlainHp.obj ?_ | refine PlainHp.pin rfl ?_ | refine PlainHp.varA rfl ?_))(Z:GZ hp id (.row T s (vm++ud))=some hp':=by exact rfl):AWl prog s0 n ops Q (⟨some e,.call { callee:=.builtin .append,args:=#[x,y],argTypes:=#[t,t] },ty,ps,af,none⟩::rest) ⟨fr,hp⟩:=EB C N A L i E q R M p g Z h
end
section
variable {hp:List Ow} {m T z:Nat} {l l':List Ow}
theorem Yr{r:List (List D)}(h:HpLe hp m l l'):HpLe hp m (.row T z r::l) (.row T z r::l'):=HpLe.cons (OwLe.row rfl) h
theorem Yv{c:List D}(h:HpLe hp m l l'):HpLe hp m (.var T (c.map .d)::l) (.var T (c.map .d)::l'):=HpLe.cons (OwLe.varD rfl) h
theorem Yd{x:D}{f r:List (Nat×AV)}(h:FrLe hp m f r)(B:Ch f n=some (.d x):=by exact rfl):FrLe hp m f ((n,.d x)::r):=FrLe.cons B (AVle.d rfl) h
theorem Yp{t i o:Nat}{f r:List (Nat×AV)}(h:FrLe hp m f r)(B:Ch f t=some (.ptr i o):=by exact rfl)(J:Nat.blt i m=true:=by exact rfl):FrLe hp m f ((t,.ptr i o)::r):=FrLe.cons B (AVle.ptr J) h
end
variable{H:List Ow}
theorem Po(h:HV H f=some r)(q:One H f:=by first | exact CU rfl | exact CX | exact One.ep):PartOk H f [r]:=PartOk.one h q
def Aa0:List Oper->List (List Nat)->Nat->List (List Nat)
 |[],v,_=>v
 |o::l,v,i=>Aa0 l (v++[(List.range i).filter λj=>(Bz o).any λe=>Nat.beq e j||(v.getD e []).any (Nat.beq j)]) (i+1)
def A9J(t:Nat):List Oper->Nat->Option Nat
 |[],_=>none
 |o::l,i=>match o.dst with
  |some d=>bif Nat.beq d t then some i else A9J t l (i+1)
  |none=>A9J t l (i+1)
def A7M(L:List Oper):List Operand->List (Nat×Nat)
 |[]=>[]
 |.tmp t::l=>match A9J t L 0 with
  |some i=>(t,i)::A7M L l
  |none=>A7M L l
 |_::l=>A7M L l
def Yy(L:List Oper):List Oper->List (List (Nat×Nat))
 |[]=>[]
 |o::l=>A7M L o.op.operands.toList::Yy L l
variable{vd:List Oper}
theorem Dy {s0 : An} {Q : Exit → AS → Prop} {q : List (Nat × AV)} {id : Nat} (m : Nat) (h : HS P ⟨q, H⟩ (fun c => ∃ w, Wv q H m vd c = some w ∧ AWl P s0 n vd.toArray Q (vd.drop m) w) [] vd (Yy (vd.take m) (vd.take m))) (x : P.follows .mixedOrders = true := by kernel_rfl) (I : (Yy (vd.take m) (vd.take m)).length = m := by kernel_rfl) (A : ((Yy (vd.take m) (vd.take m)).length == (Aa0 (vd.take m) [] 0).length && Nat.ble (Yy (vd.take m) (vd.take m)).length vd.length) = true := by kernel_rfl) (C : Eg vd (Ge 0 (Yy (vd.take m) (vd.take m)) (Aa0 (vd.take m) [] 0)) = true := by kernel_rfl) (e : HI vd m n = true := by kernel_rfl) (O : NE 0 vd (Yy (vd.take m) (vd.take m)) = true := by kernel_rfl) : AWp P s0 n (.region id vd.toArray true) Q ⟨q, H⟩ :=
 Re (GD x) (Yy (vd.take m) (vd.take m)) _ A C (by rw[I];exact e) O (by rw[I];exact h)
variable{uK:List Oper}
theorem K4{e:Nat}{a b c d:Oper}(h:AddE e vd uK):AddE e (a::b::c::d::vd) (a::b::c::d::uK):=.keep (.keep (.keep (.keep h)))
def A2v(G:List Ow)(arg:Operand->AV):List Operand->Option (List D)
 |[]=>some []
 |x::l=>match HV G (arg x),A2v G arg l with
  |some d,some S=>some (d::S)
  |_,_=>none
theorem YV{G:List Ow}{arg:Operand->AV}:∀{l:List Operand} {S:List D},A2v G arg l=some S->ArgsLe G arg l S
 |[],S,h=>by cases h;exact ArgsLe.nil
 |x::l,S,h=>by
  unfold A2v at h;split at h
  .rename_i d O q A
   cases h;exact ArgsLe.cons q (D.le.refl _) (YV A)
  .cases h
section
variable {P:Program} {hp:List Ow} {arg:Operand->AV} {dd:Option Tmp} {ty:TypeId} {ps:String} {af:Array Edge} {gd:Option (Nat×Bool)}
variable{vs:Array TypeId}{ve:FuncId}{v:List D}{vN:List Operand}{x:Operand}
theorem Tc(p:arg x=.d (ex (.func (.func ve) #[] #[])))(e:A2v hp arg vN=some v)(F:Abs P ve v r):Quiet P hp ⟨dd,.call { callee:=.value x,args:=vN.toArray,argTypes:=vs },ty,ps,af,gd⟩ arg (.d r):=BQ p F (YV e)
end
structure HQ(q:Prop):Prop where
 a:q
theorem GoQ{p q:Prop}(k:q)(h:HQ q->p:=by intro A;(first | (apply Gk;refine⟨_,AE (ao rfl),?_⟩) | (apply GC;refine⟨_,Bg (ao rfl),?_⟩) | (apply Rc;first | refine⟨_,Lv (ao rfl) rfl (Aa rfl) rfl rfl,?_⟩ | refine⟨_,BU (ao rfl) rfl (Aa rfl) rfl rfl,?_⟩ | refine⟨_,JY (ao rfl) rfl (Aa rfl) rfl rfl,?_⟩ | refine⟨_,Mh (ao rfl) (Aa rfl) rfl rfl,?_⟩ | refine⟨_,Tb (ao rfl) (Aa rfl) rfl rfl,?_⟩ | refine⟨_,Gi (ao rfl) (Aa rfl) rfl rfl,?_⟩ | refine⟨_,Mi (ao rfl) rfl (Aa rfl) rfl (Jr ZbU),?_⟩ | refine⟨_,HL (ao rfl) (Aa rfl) rfl (HM ZbU),?_⟩) | (apply Gt.index;refine⟨_,Gj (ao rfl) (ao rfl) (Aa rfl) (Aa rfl) rfl ZbU (CellAt.mon ZbU),?_⟩) | (apply Im;first | refine⟨_,QY (ao rfl) (Aa rfl) rfl (Aa rfl) rfl rfl,?_⟩ | refine⟨_,Ik (ao rfl) (Aa rfl) rfl (Aa rfl) rfl,?_⟩) | (apply Om;first | refine⟨_,Ir rfl (ao rfl) (Aa rfl) (Aa rfl) rfl,?_⟩ | refine⟨_,CD rfl (ao rfl) (Aa rfl) (Aa rfl) rfl ZbU,?_⟩ | refine⟨_,Ht rfl (ao rfl) (Aa rfl) (Aa rfl) rfl rfl ZbG,?_⟩ | refine⟨_,MV (ao rfl) (ao rfl) (Aa rfl) (Aa rfl) ZbU,?_⟩ | refine⟨_,Lw (ao rfl) (ao rfl) (Aa rfl) (Aa rfl) ZbU,?_⟩ | refine⟨_,WS (ao rfl) (ao rfl) (Aa rfl) (Aa rfl) ZbL ZbL rfl,?_⟩ | refine⟨_,QX (ao rfl) (ao rfl) (Aa rfl) (Aa rfl) ZbL ZbL,?_⟩ | refine⟨_,Mj (ao rfl) (ao rfl) (Aa rfl) (Aa rfl) ZbU,?_⟩) | (apply A6J;first | refine⟨_,Oh rfl (ao rfl) (Aa rfl) (Aa rfl) rfl ZbU,?_⟩ | refine⟨_,Od rfl (ao rfl) (Aa rfl) (Aa rfl) rfl ZbU,?_⟩) | (apply A1o;first | refine⟨_,Bj rfl (Aa rfl),?_⟩ | refine⟨_,QW (ao rfl) (Aa rfl),?_⟩ | refine⟨_,A1e rfl (Aa rfl),?_⟩) | (apply A1p;first | refine⟨_,Ij (ao rfl) (ao rfl) ZbG,?_⟩ | refine⟨_,Oe (ao rfl) (ao rfl) ZbG,?_⟩ | refine⟨_,PA (ao rfl) (ao rfl) ZbG ZbG,?_⟩) | (apply A6I;first | refine⟨_,Jo (ao rfl) (ao rfl) ZbG ZbG,?_⟩ | refine⟨_,Pu (ao rfl) (ao rfl) ZbG ZbG,?_⟩) | (apply Gt.mul;refine⟨_,WP (ao rfl) (ao rfl) ZbG ZbG,?_⟩) | (apply Aah;refine⟨_,WM (ao rfl) (ao rfl) ZbG ZbG ZbG,?_⟩) | (apply A6K;first | refine⟨_,SY (ao rfl) (ao rfl) ZbG ZbG,?_⟩ | refine⟨_,QU (ao rfl) (ao rfl) ZbL,?_⟩) | (apply Abx;refine⟨_,A1c (ao rfl) (ao rfl) ZbU ZbU,?_⟩) | (apply IS;first | refine⟨_,GW rfl (ao rfl) (ao rfl) ZbR,?_⟩ | refine⟨_,Il rfl (ao rfl) (ao rfl) ZbR,?_⟩ | refine⟨_,WT (ao rfl) (ao rfl) rfl,?_⟩ | refine⟨_,Py (ao rfl) (ao rfl) Zcz,?_⟩ | refine⟨_,Pz (ao rfl) (ao rfl) Zcz,?_⟩ | refine⟨_,Pv (ao rfl) (ao rfl) Zcz,?_⟩ | refine⟨_,Pw (ao rfl) (ao rfl) Zcz,?_⟩ | refine⟨_,Lx (ao rfl) (ao rfl),?_⟩ | refine⟨_,Lt (ao rfl) (ao rfl),?_⟩ | refine⟨_,Mk (ao rfl) (ao rfl) ZbK,?_⟩ | refine⟨_,Mg (ao rfl) (ao rfl) ZbK,?_⟩) | (apply Abw;first | refine⟨_,WO (ao rfl),?_⟩ | refine⟨_,Ta (ao rfl) ZbG ZbG,?_⟩) | (apply Aai;refine⟨_,A1d (ao rfl) (ao rfl),?_⟩) | (apply Gt.min;refine⟨_,WQ (ao rfl) (ao rfl),?_⟩) | (apply Aaj;refine⟨_,A1f (ao rfl) rfl,?_⟩) | (apply Ol;first | refine⟨_,HK (ao rfl) (ao rfl),?_⟩ | refine⟨_,JX (ao rfl) (ao rfl),?_⟩ | refine⟨_,Og (ao rfl) (ao rfl) (ao rfl),?_⟩ | refine⟨_,Of (ao rfl) (ao rfl) (ao rfl),?_⟩) | (apply A42;first | refine⟨_,Cc (ao rfl) (Aa rfl) (Aa rfl) rfl rfl rfl rfl rfl,?_⟩ | (refine DG (Aa rfl) (Aa rfl) rfl rfl rfl rfl rfl ?_;(repeat ((first | refine⟨_,Az (ao rfl),?_⟩ | refine⟨_,Po rfl,?_⟩);refine⟨_,rfl,?_⟩));refine⟨_,rfl,?_⟩)) | (apply A8p;first | refine⟨_,GB (ao rfl) (Aa rfl) (Aa rfl) ZbG ZbG,?_⟩ | refine⟨_,Ra (ao rfl) (Aa rfl) (Aa rfl),?_⟩) | (apply Zw;first | (refine AI (Aa rfl) rfl rfl rfl ?_;(repeat ((first | refine⟨_,Az (ao rfl),?_⟩ | refine⟨_,Po rfl,?_⟩);refine⟨_,rfl,?_⟩));refine⟨_,rfl,?_⟩) | (refine LA (Aa rfl) (Aa rfl) rfl rfl ?_;(repeat ((first | refine⟨_,Az (ao rfl),?_⟩ | refine⟨_,Po rfl,?_⟩);refine⟨_,rfl,?_⟩));refine⟨_,rfl,?_⟩)) | (apply Zv;first | refine⟨_,Tc (ao rfl) rfl Zcz,?_⟩ | refine⟨_,BQ (ao rfl) Zcz ZbY,?_⟩));exact A.a):p:=h ⟨k⟩
theorem Go{p q:Prop}(k:q)(h:HQ q->p:=by intro A;(repeat (first | apply Ah | apply AWp.region | (apply Zx;refine Al ?_) | (apply Th;first | refine Sf ?_ | refine Oq (ao rfl) (ao rfl) rfl (Aa rfl) rfl rfl rfl ?_ | refine De (ao rfl) (ao rfl) rfl (Aa rfl) ZbX rfl rfl ?_ | refine LD (ao rfl) (ao rfl) rfl (Aa rfl) ZbX (SetAt.mon ZbU) rfl ?_) | (apply A6S;first | refine Bx ?_ | refine Xf (ao rfl) rfl rfl rfl rfl rfl ?_) | (apply Aal;first | refine Ap ?_ | refine EB (ao rfl) rfl rfl (Aa rfl) (Aa rfl) rfl rfl ZcF ZcF rfl ZbM rfl ?_) | (apply A8Y;refine Xh (Aa rfl) (Aa rfl) rfl rfl rfl rfl rfl ?_) | (apply Aby;refine A8t (ao rfl) (ao rfl) (Aa rfl) (Aa rfl) ZbG ZbG rfl rfl rfl rfl rfl rfl ?_) | (refine Df rfl rfl ?_;refine GoQ ?_) | refine To rfl rfl rfl rfl rfl ?_ | (refine PI rfl rfl rfl rfl rfl ?_;refine GoQ ?_) | apply OnlyN.mk' | apply AWl.nil | apply Yn | apply AWp.block | apply GX | apply Cg | apply BV | apply Dr | apply BD | apply Bi | apply DW | apply BI | apply It | apply BS | refine ZG rfl ?_ | (apply Kv;first | refine Ct ?_ | refine Cf ?_ | refine Js (ao rfl) (Yak ZbG) ?_ | refine HN (ao rfl) (Yad ZbG) ?_ | refine Js (ao rfl) Zcz ?_ | refine HN (ao rfl) Zcz ?_ | refine Js (ao rfl) (by first | (simp;done) | fail) ?_ | refine HN (ao rfl) (by first | (simp;done) | fail) ?_ | refine Js (ao rfl) ZiB ?_ | refine HN (ao rfl) ZiB ?_)));exact A.a):p:=h ⟨k⟩
theorem Dw{p q:Prop}(k:q)(h:HQ q->p:=by intro A;(repeat (first | refine⟨_,rfl,?_⟩ | (apply A6P;refine⟨_,HStep.n rfl (Aa rfl) rfl ZbL rfl,?_⟩;refine⟨_,rfl,?_⟩) | (apply WY;(refine Xq (AE (ah rfl)) ?_)) | (apply UW;(refine Xq (Bg (ah rfl)) ?_)) | (apply Xa;first | (refine Xq (Lv (ah rfl) rfl (Aa rfl) rfl rfl) ?_) | (refine Xq (BU (ah rfl) rfl (Aa rfl) rfl rfl) ?_) | (refine Xq (JY (ah rfl) rfl (Aa rfl) rfl rfl) ?_) | (refine Xq (Mh (ah rfl) (Aa rfl) rfl rfl) ?_) | (refine Xq (Tb (ah rfl) (Aa rfl) rfl rfl) ?_) | (refine Xq (Gi (ah rfl) (Aa rfl) rfl rfl) ?_) | (refine Xq (Mi (ah rfl) rfl (Aa rfl) rfl (Jr ZbU)) ?_) | (refine Xq (HL (ah rfl) (Aa rfl) rfl (HM ZbU)) ?_)) | (apply Gh.index;(refine Xq (Gj (ah rfl) (ah rfl) (Aa rfl) (Aa rfl) rfl ZbU (CellAt.mon ZbU)) ?_)) | (apply Ku;first | (refine Xq (QY (ah rfl) (Aa rfl) rfl (Aa rfl) rfl rfl) ?_) | (refine Xq (Ik (ah rfl) (Aa rfl) rfl (Aa rfl) rfl) ?_)) | (apply Kt;first | (refine Xq (Ir rfl (ah rfl) (Aa rfl) (Aa rfl) rfl) ?_) | (refine Xq (CD rfl (ah rfl) (Aa rfl) (Aa rfl) rfl ZbU) ?_) | (refine Xq (Ht rfl (ah rfl) (Aa rfl) (Aa rfl) rfl rfl ZbG) ?_) | (refine Xq (MV (ah rfl) (ah rfl) (Aa rfl) (Aa rfl) ZbU) ?_) | (refine Xq (Lw (ah rfl) (ah rfl) (Aa rfl) (Aa rfl) ZbU) ?_) | (refine Xq (WS (ah rfl) (ah rfl) (Aa rfl) (Aa rfl) ZbL ZbL rfl) ?_) | (refine Xq (QX (ah rfl) (ah rfl) (Aa rfl) (Aa rfl) ZbL ZbL) ?_) | (refine Xq (Mj (ah rfl) (ah rfl) (Aa rfl) (Aa rfl) ZbU) ?_)) | (apply Gh.slice;first | (refine Xq (Oh rfl (ah rfl) (Aa rfl) (Aa rfl) rfl ZbU) ?_) | (refine Xq (Od rfl (ah rfl) (Aa rfl) (Aa rfl) rfl ZbU) ?_)) | (apply A6M;first | (refine Xq (Bj rfl (Aa rfl)) ?_) | (refine Xq (QW (ah rfl) (Aa rfl)) ?_) | (refine Xq (A1e rfl (Aa rfl)) ?_)) | (apply A6Q;first | (refine Xq (Ij (ah rfl) (ah rfl) ZbG) ?_) | (refine Xq (Oe (ah rfl) (ah rfl) ZbG) ?_) | (refine Xq (PA (ah rfl) (ah rfl) ZbG ZbG) ?_)) | (apply A6L;first | (refine Xq (Jo (ah rfl) (ah rfl) ZbG ZbG) ?_) | (refine Xq (Pu (ah rfl) (ah rfl) ZbG ZbG) ?_)) | (apply Gh.mul;(refine Xq (WP (ah rfl) (ah rfl) ZbG ZbG) ?_)) | (apply Gh.quo;(refine Xq (WM (ah rfl) (ah rfl) ZbG ZbG ZbG) ?_)) | (apply A1r;first | (refine Xq (SY (ah rfl) (ah rfl) ZbG ZbG) ?_) | (refine Xq (QU (ah rfl) (ah rfl) ZbL) ?_)) | (apply Gh.or;(refine Xq (A1c (ah rfl) (ah rfl) ZbU ZbU) ?_)) | (apply A6O;first | (refine Xq (GW rfl (ah rfl) (ah rfl) ZbR) ?_) | (refine Xq (Il rfl (ah rfl) (ah rfl) ZbR) ?_) | (refine Xq (WT (ah rfl) (ah rfl) rfl) ?_) | (refine Xq (Py (ah rfl) (ah rfl) Zcz) ?_) | (refine Xq (Pz (ah rfl) (ah rfl) Zcz) ?_) | (refine Xq (Pv (ah rfl) (ah rfl) Zcz) ?_) | (refine Xq (Pw (ah rfl) (ah rfl) Zcz) ?_) | (refine Xq (Lx (ah rfl) (ah rfl)) ?_) | (refine Xq (Lt (ah rfl) (ah rfl)) ?_) | (refine Xq (Mk (ah rfl) (ah rfl) ZbK) ?_) | (refine Xq (Mg (ah rfl) (ah rfl) ZbK) ?_)) | (apply A8X;first | (refine Xq (WO (ah rfl)) ?_) | (refine Xq (Ta (ah rfl) ZbG ZbG) ?_)) | (apply Gh.max;(refine Xq (A1d (ah rfl) (ah rfl)) ?_)) | (apply Gh.min;(refine Xq (WQ (ah rfl) (ah rfl)) ?_)) | (apply A6N;(refine Xq (A1f (ah rfl) rfl) ?_)) | (apply A2C;first | (refine Xq (HK (ah rfl) (ah rfl)) ?_) | (refine Xq (JX (ah rfl) (ah rfl)) ?_) | (refine Xq (Og (ah rfl) (ah rfl) (ah rfl)) ?_) | (refine Xq (Of (ah rfl) (ah rfl) (ah rfl)) ?_)) | (apply PH;first | (refine Xq (Cc (ah rfl) (Aa rfl) (Aa rfl) rfl rfl rfl rfl rfl) ?_) | (refine Hq rfl ?_;refine DG (Aa rfl) (Aa rfl) rfl rfl rfl rfl rfl ?_;(repeat ((first | refine⟨_,Az (ah rfl),?_⟩ | refine⟨_,Po rfl,?_⟩);refine⟨_,rfl,?_⟩));refine⟨_,rfl,?_⟩;refine⟨_,rfl,?_⟩)) | (apply Xb;first | (refine Xq (GB (ah rfl) (Aa rfl) (Aa rfl) ZbG ZbG) ?_) | (refine Xq (Ra (ah rfl) (Aa rfl) (Aa rfl)) ?_)) | (apply Tf;first | (refine Hq rfl ?_;refine AI (Aa rfl) rfl rfl rfl ?_;(repeat ((first | refine⟨_,Az (ah rfl),?_⟩ | refine⟨_,Po rfl,?_⟩);refine⟨_,rfl,?_⟩));refine⟨_,rfl,?_⟩;refine⟨_,rfl,?_⟩) | (refine Hq rfl ?_;refine LA (Aa rfl) (Aa rfl) rfl rfl ?_;(repeat ((first | refine⟨_,Az (ah rfl),?_⟩ | refine⟨_,Po rfl,?_⟩);refine⟨_,rfl,?_⟩));refine⟨_,rfl,?_⟩;refine⟨_,rfl,?_⟩)) | (apply Te;first | (refine Xq (Tc (ah rfl) rfl Zcz) ?_) | (refine Xq (BQ (ah rfl) Zcz ZbY) ?_)) | (refine⟨_,A6H rfl rfl rfl,?_⟩;refine⟨_,rfl,?_⟩) | (apply WY;(refine⟨_,Bb rfl rfl (AE (ah rfl)),?_⟩;refine⟨_,rfl,?_⟩)) | (apply UW;(refine⟨_,Bb rfl rfl (Bg (ah rfl)),?_⟩;refine⟨_,rfl,?_⟩)) | (apply Xa;first | (refine⟨_,Bb rfl rfl (Lv (ah rfl) rfl (Aa rfl) rfl rfl),?_⟩;refine⟨_,rfl,?_⟩) | (refine⟨_,Bb rfl rfl (BU (ah rfl) rfl (Aa rfl) rfl rfl),?_⟩;refine⟨_,rfl,?_⟩) | (refine⟨_,Bb rfl rfl (JY (ah rfl) rfl (Aa rfl) rfl rfl),?_⟩;refine⟨_,rfl,?_⟩) | (refine⟨_,Bb rfl rfl (Mh (ah rfl) (Aa rfl) rfl rfl),?_⟩;refine⟨_,rfl,?_⟩) | (refine⟨_,Bb rfl rfl (Tb (ah rfl) (Aa rfl) rfl rfl),?_⟩;refine⟨_,rfl,?_⟩) | (refine⟨_,Bb rfl rfl (Gi (ah rfl) (Aa rfl) rfl rfl),?_⟩;refine⟨_,rfl,?_⟩) | (refine⟨_,Bb rfl rfl (Mi (ah rfl) rfl (Aa rfl) rfl (Jr ZbU)),?_⟩;refine⟨_,rfl,?_⟩) | (refine⟨_,Bb rfl rfl (HL (ah rfl) (Aa rfl) rfl (HM ZbU)),?_⟩;refine⟨_,rfl,?_⟩)) | (apply Gh.index;(refine⟨_,Bb rfl rfl (Gj (ah rfl) (ah rfl) (Aa rfl) (Aa rfl) rfl ZbU (CellAt.mon ZbU)),?_⟩;refine⟨_,rfl,?_⟩)) | (apply Ku;first | (refine⟨_,Bb rfl rfl (QY (ah rfl) (Aa rfl) rfl (Aa rfl) rfl rfl),?_⟩;refine⟨_,rfl,?_⟩) | (refine⟨_,Bb rfl rfl (Ik (ah rfl) (Aa rfl) rfl (Aa rfl) rfl),?_⟩;refine⟨_,rfl,?_⟩)) | (apply Kt;first | (refine⟨_,Bb rfl rfl (Ir rfl (ah rfl) (Aa rfl) (Aa rfl) rfl),?_⟩;refine⟨_,rfl,?_⟩) | (refine⟨_,Bb rfl rfl (CD rfl (ah rfl) (Aa rfl) (Aa rfl) rfl ZbU),?_⟩;refine⟨_,rfl,?_⟩) | (refine⟨_,Bb rfl rfl (Ht rfl (ah rfl) (Aa rfl) (Aa rfl) rfl rfl ZbG),?_⟩;refine⟨_,rfl,?_⟩) | (refine⟨_,Bb rfl rfl (MV (ah rfl) (ah rfl) (Aa rfl) (Aa rfl) ZbU),?_⟩;refine⟨_,rfl,?_⟩) | (refine⟨_,Bb rfl rfl (Lw (ah rfl) (ah rfl) (Aa rfl) (Aa rfl) ZbU),?_⟩;refine⟨_,rfl,?_⟩) | (refine⟨_,Bb rfl rfl (WS (ah rfl) (ah rfl) (Aa rfl) (Aa rfl) ZbL ZbL rfl),?_⟩;refine⟨_,rfl,?_⟩) | (refine⟨_,Bb rfl rfl (QX (ah rfl) (ah rfl) (Aa rfl) (Aa rfl) ZbL ZbL),?_⟩;refine⟨_,rfl,?_⟩) | (refine⟨_,Bb rfl rfl (Mj (ah rfl) (ah rfl) (Aa rfl) (Aa rfl) ZbU),?_⟩;refine⟨_,rfl,?_⟩)) | (apply Gh.slice;first | (refine⟨_,Bb rfl rfl (Oh rfl (ah rfl) (Aa rfl) (Aa rfl) rfl ZbU),?_⟩;refine⟨_,rfl,?_⟩) | (refine⟨_,Bb rfl rfl (Od rfl (ah rfl) (Aa rfl) (Aa rfl) rfl ZbU),?_⟩;refine⟨_,rfl,?_⟩)) | (apply A6M;first | (refine⟨_,Bb rfl rfl (Bj rfl (Aa rfl)),?_⟩;refine⟨_,rfl,?_⟩) | (refine⟨_,Bb rfl rfl (QW (ah rfl) (Aa rfl)),?_⟩;refine⟨_,rfl,?_⟩) | (refine⟨_,Bb rfl rfl (A1e rfl (Aa rfl)),?_⟩;refine⟨_,rfl,?_⟩)) | (apply A6Q;first | (refine⟨_,Bb rfl rfl (Ij (ah rfl) (ah rfl) ZbG),?_⟩;refine⟨_,rfl,?_⟩) | (refine⟨_,Bb rfl rfl (Oe (ah rfl) (ah rfl) ZbG),?_⟩;refine⟨_,rfl,?_⟩) | (refine⟨_,Bb rfl rfl (PA (ah rfl) (ah rfl) ZbG ZbG),?_⟩;refine⟨_,rfl,?_⟩)) | (apply A6L;first | (refine⟨_,Bb rfl rfl (Jo (ah rfl) (ah rfl) ZbG ZbG),?_⟩;refine⟨_,rfl,?_⟩) | (refine⟨_,Bb rfl rfl (Pu (ah rfl) (ah rfl) ZbG ZbG),?_⟩;refine⟨_,rfl,?_⟩)) | (apply Gh.mul;(refine⟨_,Bb rfl rfl (WP (ah rfl) (ah rfl) ZbG ZbG),?_⟩;refine⟨_,rfl,?_⟩)) | (apply Gh.quo;(refine⟨_,Bb rfl rfl (WM (ah rfl) (ah rfl) ZbG ZbG ZbG),?_⟩;refine⟨_,rfl,?_⟩)) | (apply A1r;first | (refine⟨_,Bb rfl rfl (SY (ah rfl) (ah rfl) ZbG ZbG),?_⟩;refine⟨_,rfl,?_⟩) | (refine⟨_,Bb rfl rfl (QU (ah rfl) (ah rfl) ZbL),?_⟩;refine⟨_,rfl,?_⟩)) | (apply Gh.or;(refine⟨_,Bb rfl rfl (A1c (ah rfl) (ah rfl) ZbU ZbU),?_⟩;refine⟨_,rfl,?_⟩)) | (apply A6O;first | (refine⟨_,Bb rfl rfl (GW rfl (ah rfl) (ah rfl) ZbR),?_⟩;refine⟨_,rfl,?_⟩) | (refine⟨_,Bb rfl rfl (Il rfl (ah rfl) (ah rfl) ZbR),?_⟩;refine⟨_,rfl,?_⟩) | (refine⟨_,Bb rfl rfl (WT (ah rfl) (ah rfl) rfl),?_⟩;refine⟨_,rfl,?_⟩) | (refine⟨_,Bb rfl rfl (Py (ah rfl) (ah rfl) Zcz),?_⟩;refine⟨_,rfl,?_⟩) | (refine⟨_,Bb rfl rfl (Pz (ah rfl) (ah rfl) Zcz),?_⟩;refine⟨_,rfl,?_⟩) | (refine⟨_,Bb rfl rfl (Pv (ah rfl) (ah rfl) Zcz),?_⟩;refine⟨_,rfl,?_⟩) | (refine⟨_,Bb rfl rfl (Pw (ah rfl) (ah rfl) Zcz),?_⟩;refine⟨_,rfl,?_⟩) | (refine⟨_,Bb rfl rfl (Lx (ah rfl) (ah rfl)),?_⟩;refine⟨_,rfl,?_⟩) | (refine⟨_,Bb rfl rfl (Lt (ah rfl) (ah rfl)),?_⟩;refine⟨_,rfl,?_⟩) | (refine⟨_,Bb rfl rfl (Mk (ah rfl) (ah rfl) ZbK),?_⟩;refine⟨_,rfl,?_⟩) | (refine⟨_,Bb rfl rfl (Mg (ah rfl) (ah rfl) ZbK),?_⟩;refine⟨_,rfl,?_⟩)) | (apply A8X;first | (refine⟨_,Bb rfl rfl (WO (ah rfl)),?_⟩;refine⟨_,rfl,?_⟩) | (refine⟨_,Bb rfl rfl (Ta (ah rfl) ZbG ZbG),?_⟩;refine⟨_,rfl,?_⟩)) | (apply Gh.max;(refine⟨_,Bb rfl rfl (A1d (ah rfl) (ah rfl)),?_⟩;refine⟨_,rfl,?_⟩)) | (apply Gh.min;(refine⟨_,Bb rfl rfl (WQ (ah rfl) (ah rfl)),?_⟩;refine⟨_,rfl,?_⟩)) | (apply A6N;(refine⟨_,Bb rfl rfl (A1f (ah rfl) rfl),?_⟩;refine⟨_,rfl,?_⟩)) | (apply A2C;first | (refine⟨_,Bb rfl rfl (HK (ah rfl) (ah rfl)),?_⟩;refine⟨_,rfl,?_⟩) | (refine⟨_,Bb rfl rfl (JX (ah rfl) (ah rfl)),?_⟩;refine⟨_,rfl,?_⟩) | (refine⟨_,Bb rfl rfl (Og (ah rfl) (ah rfl) (ah rfl)),?_⟩;refine⟨_,rfl,?_⟩) | (refine⟨_,Bb rfl rfl (Of (ah rfl) (ah rfl) (ah rfl)),?_⟩;refine⟨_,rfl,?_⟩)) | (apply PH;first | (refine⟨_,Bb rfl rfl (Cc (ah rfl) (Aa rfl) (Aa rfl) rfl rfl rfl rfl rfl),?_⟩;refine⟨_,rfl,?_⟩) | (refine HqG rfl rfl ?_;refine DG (Aa rfl) (Aa rfl) rfl rfl rfl rfl rfl ?_;(repeat ((first | refine⟨_,Az (ah rfl),?_⟩ | refine⟨_,Po rfl,?_⟩);refine⟨_,rfl,?_⟩));refine⟨_,rfl,?_⟩;refine⟨_,rfl,?_⟩)) | (apply Xb;first | (refine⟨_,Bb rfl rfl (GB (ah rfl) (Aa rfl) (Aa rfl) ZbG ZbG),?_⟩;refine⟨_,rfl,?_⟩) | (refine⟨_,Bb rfl rfl (Ra (ah rfl) (Aa rfl) (Aa rfl)),?_⟩;refine⟨_,rfl,?_⟩)) | (apply Tf;first | (refine HqG rfl rfl ?_;refine AI (Aa rfl) rfl rfl rfl ?_;(repeat ((first | refine⟨_,Az (ah rfl),?_⟩ | refine⟨_,Po rfl,?_⟩);refine⟨_,rfl,?_⟩));refine⟨_,rfl,?_⟩;refine⟨_,rfl,?_⟩) | (refine HqG rfl rfl ?_;refine LA (Aa rfl) (Aa rfl) rfl rfl ?_;(repeat ((first | refine⟨_,Az (ah rfl),?_⟩ | refine⟨_,Po rfl,?_⟩);refine⟨_,rfl,?_⟩));refine⟨_,rfl,?_⟩;refine⟨_,rfl,?_⟩)) | (apply Te;first | (refine⟨_,Bb rfl rfl (Tc (ah rfl) rfl Zcz),?_⟩;refine⟨_,rfl,?_⟩) | (refine⟨_,Bb rfl rfl (BQ (ah rfl) Zcz ZbY),?_⟩;refine⟨_,rfl,?_⟩))));exact A.a):p:=h ⟨k⟩
theorem A0V(P Q:List Tm)(A:P.length<=9223372036854775807):Abs prog 17 [BP P,BP Q] (ex (.bool (Hg P Q))):=by
 by_cases I:P.length=Q.length
 .refine Ab func17 λw=>?_
  rw[ntmps17];refine Go ?_;refine AF (λv q=>∃k,k<=P.length/\v=P.length-k/\(∀j,j<k->ZH (Bv P j) (Bv Q j)=true)/\q=⟨[(0,.d (BP P)),(1,.d (BP Q)),(4,.d (ex (.bool false))),(5,.d (ex (.int .i64 (k:Nat))))],[]⟩) ?le ⟨0,by omega,rfl,λj h=>absurd h ZbG,rfl⟩ ?round
  case le=>exact ZjY
  case round=>
   rintro v _ ⟨k,B,rfl,x,rfl⟩;by_cases O:k<P.length
   .have c:=TN (Bv P k) (Bv Q k)
    cases E:ZH (Bv P k) (Bv Q k)with
    |true=>
     rw[E]at c;refine Go ?_;refine Dy 10 ?_;refine ZfU ?_
     refine Ai (P.length - (k + 1)) ZbG ⟨k + 1, by omega, rfl, fun j W => (by
      by_cases e:j=k
      .rw [e];exact E
      .exact x j ZbG),rfl⟩ ?_
     exact ZjY
    |false=>
     rw[E]at c
     have Z:Hg P Q=false:=Ja λh=>by
      have:=(In.1 h).2 k O;rw[E]at this;cases this
     refine Go ?_;refine Dy 10 ?_;refine ZfU ?_;exact AA (Am (ResV.tmp rfl rfl) (Ae (by rw[Z])))
   .obtain rfl:k=P.length:=by omega
    have Z:Hg P Q=true:=Ix.2 (In.2 ⟨I,x⟩);exact ZiN
 .have Z:Hg P Q=false:=Ja λh=>I (In.1 h).1
  refine Ab func17 λw=>?_;rw[ntmps17];exact ZiN
theorem A0U(P Q:List Tm):Abs prog 17 [BP P,BP Q] (ex (.bool (Hg P Q))):=by
 refine⟨Ag func17 ZbK ZbK,λs J q B K=>?_⟩;obtain⟨A,c,_,h,V,_⟩:=OM (K 0 ZbV);exact(A0V P Q ZbG).2 s J q B K
variable{vp:Code}{vl:Exit->AS->Prop}{vc:List (Nat×AV)}{vA:List Ow}{b:Nat}
theorem EG{s0:An}(t T F:Nat)(h:Ch vc t=some (.d (ex (.slice none 0 0))))(K:T≠335)(C:0<F)(x:HT H=some b)(Z:Gd H (.row T F [])=some vA)(k:AWp P s0 n vp vl ⟨(t,.own b)::vc,vA⟩):AWp P s0 n vp vl ⟨vc,H⟩:=by
 rw[Fe Z]at k;obtain rfl:=FP x;refine⟨λa w ⟨s,X,c,G⟩=>?_⟩;have r:a.tmps.getD t undef=.slice none 0 0:=G.fr t _ h
 have O:t<a.tmps.size:=by
  rcases YaD t a.tmps.size with A | A
  .exact A
  .simp [A,undef]at r
 have I:a.tmps[t]? = some (.slice none 0 0):=by
  rw[YaH,YaJ O]at r;rw[YaJ O];exact congrArg some r
 have l:a.put (some t) (.slice none 0 0)=a:=by
  unfold Act.put
  have:a.tmps.setIfInBounds t (.slice none 0 0)=a.tmps:=by
   apply Ydz;intro i;by_cases J:t=i
   .subst J;rw[I];simp[O]
   .rw [YaU J]
  simp only[this]
 have := G.new (GS.Le.refl s) (dst := some t) (v := .slice none 0 0) (u := .slice none 0 0) (r := .own H.length) (ow := .row T F []) (fun d e => by cases e; rw [← G.sz]; exact O) ⟨YeA _, by simp⟩
  ⟨[],by simp only[Yan];exact⟨by simp,.inl ⟨rfl,rfl⟩⟩,K,C,λq E=>by simp[DQ]at E,λk B=>absurd B (Ybg k)⟩ (λq E=>by cases E)
 rw[l]at this;exact ZjZ
theorem Ip(b:Bool)(l:List Nat):Abs prog 239 [ex (.bool b),wD l] (AQ (Cv (Kb b (val l)))):=by
 refine BH (Ag func239 ZbK ZbK) λs J C I r=>?_;rw[ZP I];have q:J.getD 0 undef=.bool b:=r 0 ZbV;rw[q];exact(Iq b _ l s.w (Et (r 1 ZbV))).mono λe M ⟨y,Y,m,k,a,W,Q⟩=>⟨_,a,Q,λj c h _ _=>by subst c;exact HC h W⟩
variable{ve:FuncId}{l h vo:List Nat}
theorem ZO(i:∀args w,(callFunc ve args).run prog w=.ok (.enter ve args) w)(q:∀(A Z:Value) (w:World),Words w A l->Words w Z h->Calls prog ve #[A,Z] w λe M=>∃b,e=.returned b/\Words M b vo/\Ext w M):Abs prog ve [wD l,wD h] (wD vo):=by
 refine BH i λs J C I r=>?_;rw[ZP I];exact(q _ _ s.w (Et (r 0 ZbV)) (Et (r 1 ZbV))).mono λe M ⟨v,a,W,Q⟩=>⟨_,a,Q,λj c B _ _=>by subst c;exact JC B W⟩
theorem A2L(x y:Nat)(h:(Aw x).length<=4398046511104)(q:(Aw y).length<=4398046511104):Abs prog 278 [wD (Aw x),wD (Aw y)] (wD (Aw (x*y))):=
 ZO (Ag func278 ZbK ZbK) fun s Z w l E => by
  have:=Kp s Z _ _ w l E h q;rwa [AK,AK]at this
theorem A3x(x y:Nat)(h:(Aw x).length<=4398046511104)(q:(Aw y).length<=4398046511104):Abs prog 275 [wD (Aw x),wD (Aw y)] (wD (Aw (x+y))):=
 ZO (Ag func275 ZbK ZbK) fun s Z w l E => by
  have:=A0R s Z _ _ w l E h q;rwa [AK,AK]at this
theorem Ub(x y:Nat)(h:y<=x)(q:(Aw x).length<=4398046511104):Abs prog 277 [wD (Aw x),wD (Aw y)] (wD (Aw (x-y))):=
 ZO (Ag func277 ZbK ZbK) fun s Z w l E => by
  have:=A0O s Z _ _ w l E (by rw[AK,AK];exact h) (BR h) q;rwa [AK,AK]at this
theorem YF(x y:Nat)(h:(Aw x).length<=4398046511103)(d:y≠0):Abs prog 282 [wD (Aw x),wD (Aw y)] (Gb [wD (Aw (x/y)),wD (Aw (x%y))]):=by
 refine BH (Ag func282 ZbK ZbK) λs J E I r=>?_;rw[ZP I];refine(Ks _ _ x y s.w (Et (r 0 ZbV)) (Et (r 1 ZbV)) h d).mono λe M ⟨A,K,n,c,g,G,a,q,B,Q⟩=>⟨_,a,Q,λj F L _ _=>?_⟩;subst F;refine⟨_,rfl,rfl,λk C=>?_⟩;have C:k<2:=C
 match k,C with
 |0,_=>exact⟨_,rfl,JC L q⟩
 |1,_=>exact⟨_,rfl,JC L B⟩
theorem Ho(x y:Int)(h:(Aw x.natAbs).length<=4398046511104)(m:(Aw y.natAbs).length<=4398046511104):Abs prog 215 [AQ (Cv x),AQ (Cv y)] (AQ (Cv (x*y))):=by
 have e:=Ip (decide (x<0) != decide (y<0)) (Aw (x.natAbs*y.natAbs));rw[AK,show Kb (decide (x<0) != decide (y<0)) (x.natAbs*y.natAbs)=x*y from Vq x y]at e;refine Ab func215 λw=>?_;rw[ntmps215];apply Y1;refine Bx ?_;refine Bx ?_;refine Al ?_;refine Y0<|Ah ?_
 refine Dy 11 ?_;refine Xq AC ?_;refine Xq Ao ?_;refine Xq AC ?_;refine Xq Ao ?_;refine Xq A3R ?_;refine Xq AC ?_;refine Xq Ao ?_;refine Xq AC ?_;refine Xq Ao ?_;refine Xq (AJ (A2L x.natAbs y.natAbs h m)) ?_;refine Xq (AJ (e)) ?_;refine⟨_,rfl,?_⟩;refine Sf ?_;refine Y0<|BV ?_
 exact Zka
theorem A3c(x:Int):Abs prog 279 [AQ (Cv x)] (AQ (Cv (-x))):=by
 have e:=Ip (!decide (x<0)) (Aw x.natAbs);rw[AK,A1S]at e;refine Ab func279 λw=>?_;rw[ntmps279];exact ZfC
theorem A3d(x y:Int)(q:(Aw x.natAbs).length<=4398046511104)(m:(Aw y.natAbs).length<=4398046511104):Abs prog 214 [AQ (Cv x),AQ (Cv y)] (AQ (Cv (x+y))):=by
 have A:=Ip (decide (x<0));have U:=Ip (decide (y<0));by_cases h:decide (x<0)=decide (y<0)
 .have E:(decide (x<0)==decide (y<0))=true:=by simp [h]
  have c:=A (Aw (x.natAbs+y.natAbs));rw[AK,Vr h]at c;refine Ab func214 λw=>?_;rw[ntmps214];refine Go ?_;refine Dy 8 ?_;have H:=A3x x.natAbs y.natAbs q m;exact Zjp
 .have E:(decide (x<0)==decide (y<0))=false:=by simp [h]
  by_cases O:x.natAbs<y.natAbs
  .have F:Fx x.natAbs y.natAbs<0:=by rw [Fx, Yan O];decide
   have c:=U (Aw (y.natAbs-x.natAbs));rw[AK,A02 h ZbG]at c;refine Ab func214 λw=>?_;rw[ntmps214];have P:=HE x.natAbs y.natAbs;refine Go ?_;refine Dy 8 ?_;have r:=Ub y.natAbs x.natAbs ZbG m;exact Zjp
  .have F:¬Fx x.natAbs y.natAbs<0:=by rw [Fx, Yai O];split<;>decide
   have c:=A (Aw (x.natAbs-y.natAbs));rw[AK,A03 h ZbG]at c;refine Ab func214 λw=>?_;rw[ntmps214];have d:=HE x.natAbs y.natAbs;refine Go ?_;refine Dy 8 ?_;have B:=Ub x.natAbs y.natAbs ZbG q;exact Zjp
variable{vE:Array Value}{z u uk:Value}{w:World}
theorem A2V{q T A:ResultVar}(h:vO.results=#[q,T,A])(r:(Fk vE q).run P w=.ok z w)(m:(Fk vE T).run P w=.ok u w)(H:(Fk vE A).run P w=.ok uk w):(results vO vE).run P w=.ok (.tuple #[z,u,uk]) w:=by
 have key:(results vO vE).run P w=((Fk vE q).run P w).andThen λa M=>((Fk vE T).run P M).andThen λb N=>((Fk vE A).run P N).andThen λc L=>.ok (.tuple #[a,b,c]) L:=by
  unfold results;rw[h];cases q<;>cases T<;>cases A<;>simp[Fk,Mz]
 rw[key,r,Result.andThen_ok,m,Result.andThen_ok,H,Result.andThen_ok]
variable{vx up xa:D}
theorem Zb{w T L:ResultVar}(h:ResV P vf w r)(V:ResV P vf T vx)(K:ResV P vf L up)(I:D.le (Gb [r,vx,up]) xa):Rets P vf #[w,T,L] xa:=⟨λbase X s G E p A F=>by
 obtain⟨v,b,y⟩:=h.run base X s G A F;obtain⟨q,C,Y⟩:=V.run base X s G A F;obtain⟨o,e,J⟩:=K.run base X s G A F;refine⟨_,A2V p b C e,I s _ ⟨_,rfl,rfl,λk B=>?_⟩⟩;have B:k<3:=B
 match k,B with
 |0,_=>exact⟨_,rfl,y⟩
 |1,_=>exact⟨_,rfl,Y⟩
 |2,_=>exact⟨_,rfl,J⟩⟩
theorem Sb(x y:Int)(h:(Aw x.natAbs).length<=4398046511103)(N:y≠0)(V:x.natAbs%y.natAbs=0):Abs prog 225 [AQ (Cv x),AQ (Cv y)] (Gb [AQ (Cv (x/y)),AQ (Cv (x%y)),ex (.int .i64 0)]):=by
 have I:¬(Aw y.natAbs).length=0:=λe=>N (by have:=Br.1 e;omega);have q:=YE N (.inr V);have E:=YF x.natAbs y.natAbs h ZbG;have K:=Ip (decide (x<0) != decide (y<0)) (Aw (x.natAbs/y.natAbs));have T:=Ip false (Aw (x.natAbs%y.natAbs));rw[AK,show Kb (decide (x<0) != decide (y<0)) (x.natAbs/y.natAbs)=x/y from q.1.symm]at K;rw[AK,<-q.2]at T;have d:¬0<(Aw (x.natAbs%y.natAbs)).length:=by rw[V,BL];exact Ycf 0
 by_cases C:x<0
 .rw [Yak C]at K
  rw[show Cv x=[ex (.bool true),wD (Aw x.natAbs)]by rw[Cv,Yak C]];refine Ab func225 λw=>?_;rw[ntmps225];exact ZgH
 .rw [Yad C]at K
  rw[show Cv x=[ex (.bool false),wD (Aw x.natAbs)]by rw[Cv,Yad C]];refine Ab func225 λw=>?_;rw[ntmps225];exact ZgH
variable{s:GS}{a j:Int}
theorem A9K{e:Ending}(h:A6l a j w e s.w)(F:s.Ok):∃v,e=.returned v/\Ext w s.w/\(Gb [AQ (Cv a),AQ (Cv j),ex (.int .i64 0)]).rel s v:=by
 obtain⟨b,z,A,K,n,c,g,G,E,q,B,Q⟩:=h;refine⟨_,E,Q,_,rfl,rfl,λk C=>?_⟩;have C:k<3:=C
 match k,C with
 |0,_=>exact⟨_,rfl,HC F q⟩
 |1,_=>exact⟨_,rfl,HC F B⟩
 |2,_=>exact⟨_,rfl,rfl⟩
variable{uA uI:Int}
theorem A9L(i:∀args w,(callFunc ve args).run prog w=.ok (.enter ve args) w)(h:∀(b z:Bool) (A O:Option Addr) (n c g k:Nat) (w:World),IsInt w (.bool b) (.slice A n c) a->IsInt w (.bool z) (.slice O g k) j->Calls prog ve #[.agg #[.bool b,.slice A n c],.agg #[.bool z,.slice O g k]] w (A6l uA uI w)):Abs prog ve [AQ (Cv a),AQ (Cv j)] (Gb [AQ (Cv uA),AQ (Cv uI),ex (.int .i64 0)]):=by
 refine BH i λs J G I r=>?_;rw[ZP I];obtain⟨S,Y,t,X,l,d⟩:=DU (r 0 ZbV);obtain⟨U,Z,f,L,E,q⟩:=DU (r 1 ZbV);rw[l,E];refine(h S U Y Z t X f L s.w d q).mono λe M V=>?_;obtain⟨b,z,A,O,n,c,g,k,C,q,B,Q⟩:=id V;refine⟨_,C,Q,λF N W _ _=>?_⟩;subst N;obtain⟨v,r,_,K⟩:=A9K V W;rw[C]at r;cases r;exact K
theorem VX(x y:Int)(q:(Aw x.natAbs).length<=4398046511104)(m:(Aw y.natAbs).length<=4398046511104)(N:y≠0)(V:x.natAbs%y.natAbs=0):Abs prog 291 [AQ (Cv x),AQ (Cv y)] (Gb [AQ (Cv (x/y)),AQ (Cv (x%y)),ex (.int .i64 0)]):=
 A9L (Ag func291 ZbK ZbK) λb z A K n c g k w h B=>Wd b z A K n c g k x y w h B q m N (.inr V)
theorem Eu{q:Rat}(h:q.num=a)(e:(q.den:Int)=j):Cv a++Cv j=DB q:=by
 rw[DB,h,e];rfl
theorem YG:Aw 1=[1]:=by rw[Fh ZbL,show 1/BB=0 from rfl,BL];rfl
theorem A7p(h:(Aw a.natAbs).length=1):(Aw a.natAbs).getD 0 0=a.natAbs:=by
 obtain⟨w,c⟩:∃w,Aw a.natAbs=[w]:=List.length_eq_one_iff.1 h;have:=AK a.natAbs;rw[c]at this ⊢;have A:w+BB*0=a.natAbs:=this;show w=_;omega
theorem A9C(h:a<0):Cv a=[ex (.bool true),wD (Aw a.natAbs)]:=by rw[Cv,Yak h]
theorem A9D(h:¬a<0):Cv a=[ex (.bool false),wD (Aw a.natAbs)]:=by rw[Cv,Yad h]
theorem QL(z:Int):Abs prog 285 [AQ (Cv z)] (ex (.bool (decide (z=1)))):=by
 by_cases u:z<0
 .rw [Yad (show ¬z=1 by omega), A9C u]
  refine Ab func285 λw=>?_;rw[ntmps285];exact Zfx
 .rw [A9D u]
  by_cases q:(Aw z.natAbs).length=1
  .have A:=A7p q
   have d:(0:Nat)<(Aw z.natAbs).length:=by omega
   have B:decide (z=1)=decide ((((Aw z.natAbs).getD 0 0:Nat):Int)=1):=YcL.2 (by rw[A];omega);rw[B];refine Ab func285 λw=>?_;rw[ntmps285];apply Y1;refine Bx ?_;refine Wa<|Y0<|Y1 ?_;refine Wq AC ?_;refine Wq Ao ?_;refine Wq GT ?_;refine Wm ?_;refine Wg AC ?_;refine Wg Ao ?_;refine Wg QT ?_;refine Wg Bc ?_;refine Wq Ck ?_;refine Wm ?_;refine Wg AC ?_;refine Wg Ao ?_;refine Wg (Mj (l:=Aw z.natAbs) (k:=0) (ao rfl) (ao rfl) (Aa rfl) (Aa rfl) d) ?_;refine Wg AT ?_;refine Wg Ci ?_;refine Wq Ck ?_;refine Wa<|Y0<|BV ?_
   exact Yf
  .have C:¬z=1:=λe=>q (by rw [e]; exact congrArg List.length YG)
   rw[Yad C];refine Ab func285 λw=>?_;rw[ntmps285];exact Zfx
theorem EW(z:Int)(d:-9223372036854775808<=z)(q:z<=9223372036854775807):Abs prog 70 [ex (.int .i64 z)] (AQ (DB (z:Rat))):=by
 refine Ab func70 λw=>?_;rw[ntmps70];have r:=Kq z d q;have A:=Kq 1 ZbG ZbG;refine Go ?_;exact AA (Am (ResV.cell rfl rfl (Aa rfl) rfl rfl rfl) (Ae (congrArg AQ (Eu rfl rfl))))
theorem EL(p:Rat):Abs prog 137 [AQ (DB p)] (ex (.int .i64 p.num.sign)):=by
 rw[<-Eu (q:=p) rfl rfl];refine Ab func137 λw=>?_;rw[ntmps137];have O:=FJ p.num;exact Zfx
theorem Gm(p:Rat):Abs prog 140 [AQ (DB p)] (ex (.int .i64 p.num.sign)):=by
 rw[<-Eu (q:=p) rfl rfl];refine Ab func140 λw=>?_;rw[ntmps140];have B:=PG p.num;exact Zfx
theorem Sa(x y:Int)(h:(Aw x.natAbs).length<=4398046511104)(m:(Aw y.natAbs).length<=4398046511104)(N:0<y):Abs prog 322 [AQ (Cv x),AQ (Cv y)] (AQ (DB (Rat.divInt x y))):=by
 have K:=QL y;by_cases q:y=1
 .subst q
  have e:=A0B x;rw[Yak rfl]at K;refine Ab func322 λw=>?_;rw[ntmps322];exact Zhn
 .rw [Yad q]at K
  have I:=QQ x y h m;have T:=QL (Nat.gcd x.natAbs y.natAbs:Nat);have G:=DN (x:=x) N;have F:0<Nat.gcd x.natAbs y.natAbs:=Nat.gcd_pos_of_pos_right _ ZbG;have E:(Aw ((Nat.gcd x.natAbs y.natAbs:Nat):Int).natAbs).length<=4398046511104:=Yat (BR (YdA ZbG (YbK _ _))) m;by_cases A:((Nat.gcd x.natAbs y.natAbs:Nat):Int)=1
  .have e:=SH (x:=x) N ZbG
   rw[Yak A]at T;refine Ab func322 λw=>?_;rw[ntmps322];exact Zhn
  .rw [Yad A]at T
   have B:=VX x (Nat.gcd x.natAbs y.natAbs:Nat) h E ZbG (YbY (YcC _ _));have C:=VX y (Nat.gcd x.natAbs y.natAbs:Nat) m E ZbG (YbY (YbK _ _));refine Ab func322 λw=>?_;rw[ntmps322];refine Go ?_;exact AA (Am (ResV.cell rfl rfl (Aa rfl) rfl rfl rfl) (Ae (congrArg AQ (Eu G.1 G.2))))
def pk(l:List Int):Nat->Int
 |0=>1
 |k+1=>pk l k*l.getD k default
theorem XJ(x y:Int)(N M:Nat)(C:(Aw x.natAbs).length<=N)(E:(Aw y.natAbs).length<=M)(F:N<=4398046511104)(d:M<=4398046511104):Abs prog 234 [slD 109 2 ([x,y].map Cv)] (AQ (Cv (x*y))):=by
 have n:pk [x,y] 2=x*y:=by
  show 1*x*y=x*y;rw[Yei]
 have G:(Aw (1:Int).natAbs).length<=1:=by rw[show(1:Int).natAbs=1 from rfl,YG];exact Yah 1
 refine Ab func234 λw=>?_;rw[ntmps234];have H:=VI 1 ZbG ZbG;refine Go ?_;refine AF (λv c=>∃k,k<=2/\v=2-k/\c=⟨[(2,.ptr 0 0),(3,.ptr 1 0),(7,.d (slD 109 2 ([x,y].map Cv))),(8,.d (ex (.int .i64 ((2:Nat):Int)))),(9,.d (ex (.int .i64 (k:Nat))))],[.var 109 ([ex (.bool false),ex (.slice none 0 0)].map .d),.var 109 ((Cv (pk [x,y] k)).map .d)]⟩) ?le ⟨0,by omega,rfl,rfl⟩ ?round
 case le=>exact Ac Zcm ZcA
 case round=>
  rintro v _ ⟨k,B,rfl,rfl⟩;by_cases O:k<2
  .have B:k<[x,y].length:=O
   have J:pk [x,y] (k+1)=pk [x,y] k*[x,y].getD k default:=rfl
   have L:(Aw (pk [x,y] k).natAbs).length<=4398046511104:=by
    have:k=0\/k=1:=by omega
    rcases this with rfl | rfl
    .exact Yat G ZbG
    .rw [show pk [x,y] 1=1*x from rfl,Yei];omega
   have Q:(Aw ([x,y].getD k default).natAbs).length<=4398046511104:=by
    have:k=0\/k=1:=by omega
    rcases this with rfl | rfl
    .show (Aw x.natAbs).length<=_;omega
    .show (Aw y.natAbs).length<=_;omega
   have K:=QL ([x,y].getD k default);have T:=QL (pk [x,y] k);have I:=VP (pk [x,y] k) ([x,y].getD k default) L Q;by_cases q:[x,y].getD k default=1
   .rw [Yak q]at K
    rw[q,Int.mul_one]at J;refine ZgM ?_;exact Ac Zcm (by exact Yv<|HpLe.cons (OwLe.varD (by rw[J]))<|HpLe.nil)
   .rw [Yad q]at K
    by_cases A:pk [x,y] k=1
    .rw [Yak A]at T
     rw[A,Yei]at J;refine ZgM ?_;exact Ac Zcm (by apply Yv;(refine HpLe.cons (OwLe.varD (by rw[J];rfl)) ?_);exact HpLe.nil)
    .rw [Yad A]at T
     refine ZgM ?_;exact Ac Zcm ZcA
  .obtain rfl:k=2:=by omega
   rw[n];exact ZfC
theorem A5p(p q:Rat)(N M:Nat)(G:RSz p N)(k:RSz q M)(C:N+M<=4398046511104):Abs prog 324 [AQ (DB p),AQ (DB q)] (AQ (DB (p*q))):=by
 have A:=p.den_pos;have B:=q.den_pos;have e:=Fq p G;have f:=Fq q k;have I:(Aw p.num.natAbs).length<=N:=G.1;have J:(Aw q.num.natAbs).length<=M:=k.1;have K:=Sa p.num q.den ZbG ZbG ZbG;have T:=Sa q.num p.den ZbG ZbG ZbG;have x:=Uu p q;have y:RSz (Rat.divInt p.num q.den) 4398046511104:=RSz.divInt ZbG ZbG ZbG;have o:RSz (Rat.divInt q.num p.den) 4398046511104:=RSz.divInt ZbG ZbG ZbG;generalize Rat.divInt p.num q.den=u at K x y;generalize Rat.divInt q.num p.den=v at T x o;have E:=XJ u.num v.num _ _ y.1 o.1 ZbG ZbG;have F:=XJ u.den v.den _ _ (Fq u y) (Fq v o) ZbG ZbG;rw[<-Eu (q:=p) rfl rfl,<-Eu (q:=q) rfl rfl];rw[<-Eu (q:=u) rfl rfl]at K;rw[<-Eu (q:=v) rfl rfl]at T;refine Ab func324 λw=>?_;rw[ntmps324];refine Go ?_;refine Dy 13 ?_;refine ZfU ?_;exact AA (Am (ResV.cell rfl rfl (Aa rfl) rfl rfl rfl) (Ae (congrArg AQ (Eu x.1 (by rw[x.2];push_cast;rfl)))))
theorem A2z(x g:Int)(h:(Aw x.natAbs).length<=4398046511103)(T:g≠0)(V:x.natAbs%g.natAbs=0):Abs prog 280 [AQ (Cv x),AQ (Cv g)] (AQ (Cv (x/g))):=by
 refine Ab func280 λw=>?_;rw[ntmps280];have P:=Sb x g h T V;exact ZfC
theorem NP(x y:Int)(q:(Aw x.natAbs).length<=4398046511103)(m:(Aw y.natAbs).length<=4398046511103)(N:y≠0):Abs prog 216 [AQ (Cv x),AQ (Cv y)] (AQ (DB (Rat.divInt x y))):=by
 have G:=A0q (x:=x) N;have A:=A7D (x:=x) N;have B:=SU x y q m;have f:=PG y
 have P:(OW x y).natAbs=Nat.gcd x.natAbs y.natAbs:=by
  unfold OW;split<;>omega
 have K:=A2z x (OW x y) q A (by rw[P];exact YbY (YcC _ _));have T:=A2z y (OW x y) m A (by rw[P];exact YbY (YbK _ _));by_cases h:y<0
 .have Z:y.sign<0:=by rw [Ybj h];decide
  have C:=A3c (Nat.gcd x.natAbs y.natAbs:Nat);rw[show -((Nat.gcd x.natAbs y.natAbs:Nat):Int)=OW x y by rw[OW,Yan h]]at C;refine Ab func216 λw=>?_;rw[ntmps216];refine Go ?_;refine Dy 7 ?_;exact Zhj
 .have Z:¬y.sign<0:=by rw [Ybq ZbG];decide
  rw[show OW x y=((Nat.gcd x.natAbs y.natAbs:Nat):Int)by rw[OW,Yai h]]at K T G;refine Ab func216 λw=>?_;rw[ntmps216];refine Go ?_;refine Dy 7 ?_;exact Zhj
theorem A3a(x y:Int)(q:(Aw x.natAbs).length<=4398046511103)(m:(Aw y.natAbs).length<=4398046511103)(N:y≠0):Abs prog 227 [AQ (Cv x),AQ (Cv y)] (Gb [AQ (DB (Rat.divInt x y)),ex (.int .i64 0)]):=by
 have Z:¬y.sign=0:=λh=>N (Ydk.1 h);refine Ab func227 λw=>?_;rw[ntmps227];have r:=PG y;have d:=NP x y q m N;exact ZgT
theorem A3b(p q:Rat)(N M:Nat)(G:RSz p N)(k:RSz q M)(C:N+M<=4398046511103):Abs prog 182 [AQ (DB p),AQ (DB q)] (AQ (DB (p*q))):=by
 have A:=p.den_pos;have B:=q.den_pos;have I:=Fq p G;have f:=Fq q k;have F:(Aw p.num.natAbs).length<=N:=G.1;have J:(Aw q.num.natAbs).length<=M:=k.1;have r:=FO F J;have j:=FO I f;have e:((p.den:Int)*q.den)≠0:=YeF ZbG ZbG;have K:=Ho p.num q.num ZbG ZbG;have T:=Ho p.den q.den ZbG ZbG;have E:=NP (p.num*q.num) ((p.den:Int)*q.den) ZbG ZbG e;rw[<-A0o]at E;rw[<-Eu (q:=p) rfl rfl,<-Eu (q:=q) rfl rfl];refine Ab func182 λw=>?_;rw[ntmps182];apply Y1;refine Bx ?_;refine Bx ?_;refine Al ?_;refine Y0<|Ah ?_
 refine Dy 11 ?_;refine Xq AC ?_;refine Xq AD ?_;refine Xq AC ?_;refine Xq AD ?_;refine Xq (AJ (K)) ?_;refine Xq AC ?_;refine Xq AD ?_;refine Xq AC ?_;refine Xq AD ?_;refine Xq (AJ (T)) ?_;refine Xq (AJ (E)) ?_;refine⟨_,rfl,?_⟩;refine Sf ?_;refine Y0<|BV ?_
 exact Zka
theorem OU(p q:Rat)(N M:Nat)(G:RSz p N)(k:RSz q M)(C:N+M+1<=4398046511103):Abs prog 133 [AQ (DB p),AQ (DB q)] (AQ (DB (p+q))):=by
 have A:=p.den_pos;have B:=q.den_pos;have J:=Fq p G;have f:=Fq q k;have I:(Aw p.num.natAbs).length<=N:=G.1;have L:(Aw q.num.natAbs).length<=M:=k.1;have r:=FO I f;have j:=FO L J;have g:=FO J f;have O:=A2e r (Yat j ZbG);have e:((p.den:Int)*q.den)≠0:=YeF ZbG ZbG;have K:=Ho p.num q.den ZbG ZbG;have T:=Ho q.num p.den ZbG ZbG;have E:=A3d (p.num*q.den) (q.num*p.den) ZbG ZbG;have F:=Ho p.den q.den ZbG ZbG;have S:=NP (p.num*q.den+q.num*p.den) ((p.den:Int)*q.den) ZbG ZbG e;rw[<-UM]at S;rw[<-Eu (q:=p) rfl rfl,<-Eu (q:=q) rfl rfl];refine Ab func133 λw=>?_;rw[ntmps133];apply Y1;refine Bx ?_;refine Bx ?_;refine Al ?_;refine Y0<|Ah ?_
 refine Dy 17 ?_;refine Xq AC ?_;refine Xq AD ?_;refine Xq AC ?_;refine Xq AD ?_;refine Xq (AJ (K)) ?_;refine Xq AC ?_;refine Xq AD ?_;refine Xq AC ?_;refine Xq AD ?_;refine Xq (AJ (T)) ?_;refine Xq (AJ (E)) ?_;refine Xq AC ?_;refine Xq AD ?_;refine Xq AC ?_;refine Xq AD ?_;refine Xq (AJ (F)) ?_;refine Xq (AJ (S)) ?_;refine⟨_,rfl,?_⟩;refine Sf ?_;refine Y0<|BV ?_
 exact Zka
def IX(i:Nat):Nat->Int:=RA (λ_=>0) i 1
theorem A1l(c:Rat)(m:Nat->Int)(P:List Tm)(N M:Nat)(F:c≠0)(E:RSz c N)(x:In8 m 0 65535)(A:PSz P M)(I:PIn P 0 65535)(J:∀t∈P,In8 (CT m t.m) 0 65535)(h:P.length<=100000)(G:N+M<=4398046511104):Abs prog 294 [AQ (DB c),AQ (CE m),BP P] (Gb [BP (TX c m P),ex (.int .i64 0)]):=by
 have Z:c.num.sign≠0:=λe=>F (DI.1 e);refine Ab func294 λw=>?_;rw[ntmps294];have C:=EL c;refine Go ?_;refine AF (λv q=>∃k,k<=P.length/\v=P.length-k/\q=⟨[(3,.ptr 0 0),(4,.ptr 1 0),(7,.d (ex (.int .i64 0))),(8,.own 2),(19,.d (BP P)),(20,.d (ex (.int .i64 (P.length:Nat)))),(21,.d (ex (.int .i64 (k:Nat))))],[.var 111 ((DB c).map .d),.var 112 ((CE m).map .d),.row 114 12 ((TX c m (P.take k)).map QA)]⟩) ?le ⟨0,by omega,rfl,rfl⟩ ?round
 case le=>exact Ac Zem (by exact Yv<|Yv<|Yr<|HpLe.nil)
 case round=>
  rintro v _ ⟨k,B,rfl,rfl⟩;by_cases O:k<P.length
  .have L:=Dz O
   have p:=Rn O;have r:=A5z m (Bv P k).m x (I _ L) (J _ L);refine Go ?_;refine Dy 8 ?_;have d:=A5p c (Bv P k).c N M E (A _ L) G;refine Dw ?_
   (refine Ap ?_);refine ZfP ?_;exact Ac Zem Zdq
  .exact ZaO
variable{vb:List Tm}
theorem A2I(h:n<vb.length):OC (vb.take (n+1))=OC (vb.take n) ||| suppTo (Bv vb n).m 8:=Uy _ _ h
theorem Ve(P:List Tm):OC P<256:=by
 have key:∀(P:List Tm) (s:Nat),s<256->P.foldl (λs t=>s ||| suppTo t.m 8) s<256:=by
  intro P
  induction P with
  |nil=>intro s h;exact h
  |cons t P v=>intro s h;exact v _ (Yeu (n:=8) h (JF t.m 8))
 exact key P 0 ZbG
theorem A40(P:List Tm)(h:P.length<=1000000):Abs prog 245 [BP P] (ex (.int .u8 (OC P:Nat))):=by
 refine Ab func245 λw=>?_;rw[ntmps245];refine Go ?_;refine AF (λv c=>∃k,k<=P.length/\v=P.length-k/\c=⟨[(3,.d (ex (.int .u8 (OC (P.take k):Nat)))),(6,.d (BP P)),(7,.d (ex (.int .i64 (P.length:Nat)))),(8,.d (ex (.int .i64 (k:Nat))))],[]⟩) ?le ⟨0,by omega,rfl,rfl⟩ ?round
 case le=>exact ZjY
 case round=>
  rintro v _ ⟨k,B,rfl,rfl⟩;by_cases O:k<P.length
  .have q:=Ve (P.take k)
   have A:=JF (Bv P k).m 8;have K:=A2I O;have H:=VR (Bv P k).m;refine ZfP ?_;exact Ac (by exact FrLe.cons rfl (AVle.int (by rw[K]))<|Yd<|Yd<|Yd<|FrLe.nil) Zcf
  .exact ZaP
def KY(b:Bool)(l:List Nat):Bool:=if l.length=0 then !b else(((l.getD (l.length-1) 0:Nat):Int) != 0)
theorem So(b:Bool)(l:List Nat)(h:l.length<=1000000000):Abs prog 303 [AQ [ex (.bool b),wD l]] (ex (.bool (KY b l))):=by
 refine Ab func303 λw=>?_;rw[ntmps303];refine Go ?_;by_cases d:l.length=0
 .refine Go ?_
  exact AA (Am (ResV.tmp rfl rfl) (Ae (by rw[KY,Yan d])))
 .refine Go ?_
  exact AA (Am (ResV.tmp rfl rfl) (Ae (by rw[KY,Yai d])))
theorem Rk:∀{l:List Nat},l≠[]->l.getD (l.length-1) 0≠0->Em l=l
 |[],h,_=>absurd rfl h
 |[x],_,h=>by
  have h:x≠0:=h;simp[Em,h]
 |x::y::l,_,h=>by
  have V:(y::l).getD ((y::l).length-1) 0≠0:=by
   have e:(x::y::l).getD ((x::y::l).length-1) 0=(y::l).getD ((y::l).length-1) 0:=by simp
   rwa [e]at h
  have v:=Rk (l:=y::l) ZbV V;rw[Em,v]
variable{o:Bool}
theorem Ux(Z:BN l)(h:KY o l=true):∃z:Int,o=decide (z<0)/\l=Aw z.natAbs:=by
 unfold KY at h;split at h
 .rename_i d
  obtain rfl:=YaF d;exact⟨0,by simpa using h,by simp[BL]⟩
 .rename_i d
  have q:l≠[]:=λe=>d (by rw[e];rfl);have A:l.getD (l.length-1) 0≠0:=λe=>by rw[e]at h;simp at h
  have K:l=Aw (val l):=by rw[<-Bo Z,Rk q A]
  have Y:val l≠0:=λe=>by rw[e,BL]at K;exact q K
  cases o with
  |true=>exact⟨-(val l:Int),by simp;omega,by simpa using K⟩
  |false=>exact⟨(val l:Int),by simp,by simpa using K⟩
theorem Uw(z:Int):KY (decide (z<0)) (Aw z.natAbs)=true:=by
 unfold KY;split
 .rename_i h
  have:=Br.1 h;have:z=0:=by omega
  subst this;rfl
 .rename_i h
  have q:(Aw z.natAbs).getD ((Aw z.natAbs).length-1) 0≠0:=by
   have key:∀n,n≠0->(Aw n).getD ((Aw n).length-1) 0≠0:=by
    intro n
    induction n using Nat.strongRecOn with
    |_ n v=>
     intro A;rw[Fh A];by_cases d:n/BB=0
     .rw [d,BL]
      have:n%BB=n:=YaS (by have:=Nat.div_eq_zero_iff.1 d;rcases this with h | h;exact absurd h ZbL;exact h);simpa[this]using A
     .have:=v (n/BB) (Ydr (YbA A) ZbL) d
      have B:(Aw (n/BB)).length≠0:=λe=>d (Br.1 e);obtain⟨m,x⟩:∃m,(Aw (n/BB)).length=m+1:=⟨(Aw (n/BB)).length-1,by omega⟩;rw[x]at this;simp only[Yay,x,YbX,Ydo]at this ⊢;exact this
   exact key _ λe=>h (Br.2 e)
  simp only[bne_iff_ne,ne_eq];omega
def QOk(b:Bool)(l:List Nat)(z:Bool)(J:List Nat):Prop:=∃q:Rat,b=decide (q.num<0)/\l=Aw q.num.natAbs/\z=decide ((q.den:Int)<0)/\J=Aw (q.den:Int).natAbs
theorem QO(h:decide (a<0)=decide (j<0))(V:Aw a.natAbs=Aw j.natAbs):a=j:=by
 have q:a.natAbs=j.natAbs:=by rw[<-AK a.natAbs,V,AK]
 have A:(a<0)↔(j<0):=by simpa using h
 omega
theorem WU(x y:Int):QOk (decide (x<0)) (Aw x.natAbs) (decide (y<0)) (Aw y.natAbs)↔0<y/\Nat.gcd x.natAbs y.natAbs=1:=by
 constructor
 .rintro ⟨q,A,B,K,Y⟩
  have b:=QO A B;have C:=QO K Y;subst b;subst C;exact⟨by have:=q.den_pos;omega,q.reduced⟩
 .rintro ⟨A,B⟩
  refine⟨⟨x,y.natAbs,by omega,B⟩,rfl,rfl,?_,?_⟩
  .show decide (y<0)=decide (((y.natAbs:Nat):Int)<0)
   rw[Yad (show¬y<0 by omega),Yad ZbG]
  .show Aw y.natAbs=Aw ((y.natAbs:Nat):Int).natAbs
   rfl
variable{um:Bool}
theorem A6C(A:QOk o l um h):KY o l=true/\KY um h=true:=by
 obtain⟨q,rfl,rfl,rfl,rfl⟩:=A;exact⟨Uw _,Uw _⟩
def A54(b:Bool)(l:List Nat)(z:Bool)(J:List Nat):List D:=[ex (.bool b),wD l,ex (.bool z),wD J]
open Classical in
theorem RH(b:Bool)(l:List Nat)(z:Bool)(J:List Nat)(Z:BN l)(u:BN J)(B:l.length<=1000000000)(m:J.length<=1000000000):Abs prog 251 [AQ (A54 b l z J)] (ex (.bool (decide (QOk b l z J)))):=by
 have K:=So b l B;have C:=So z J m
 cases q:KY b l with
 |false=>
  have k:¬QOk b l z J:=λh=>by rw[(A6C h).1]at q;cases q
  rw[q]at K;rw[Yad k];refine Ab func251 λw=>?_;rw[ntmps251];exact Zfx
 |true=>
  rw[q]at K
  cases A:KY z J with
  |false=>
   have k:¬QOk b l z J:=λh=>by rw[(A6C h).2]at A;cases A
   rw[A]at C;rw[Yad k];refine Ab func251 λw=>?_;rw[ntmps251];exact Zfx
  |true=>
   rw[A]at C;obtain⟨x,rfl,rfl⟩:=Ux Z q;obtain⟨y,rfl,rfl⟩:=Ux u A;by_cases N:0<y
   .have R:y.sign=1:=Ybq N
    have E:=JQ y;by_cases F:y=1
    .rw [Yak F]at E
     rw[Yak ((WU x y).2 ⟨N,by subst F;exact Nat.gcd_one_right _⟩)];refine Ab func251 λw=>?_;rw[ntmps251];have H:=FJ y;exact Zfx
    .rw [Yad F]at E
     have T:decide (QOk (decide (x<0)) (Aw x.natAbs) (decide (y<0)) (Aw y.natAbs))=decide (((Nat.gcd x.natAbs y.natAbs:Nat):Int)=1):=by
      refine YcL.2 ((WU x y).trans ⟨λh=>by omega,λh=>⟨N,by omega⟩⟩)
     rw[T];refine Ab func251 λw=>?_;rw[ntmps251];have P:=FJ y;have r:=QQ x y ZbG ZbG;have d:=JQ (Nat.gcd x.natAbs y.natAbs:Nat);exact Zfx
   .have R:y.sign<=0:=Int.sign_nonpos_iff.2 ZbG
    rw[Yad λh=>N ((WU x y).1 h).1];refine Ab func251 λw=>?_;rw[ntmps251];have O:=FJ y;exact Zfx
def Abi(b:Bool)(m:Nat)(z:Bool)(n:Nat):Int:=match b,z with
 |true,true=>Fx n m
 |true,false=>-1
 |false,true=>1
 |false,false=>Fx m n
theorem A3J(b z:Bool)(m n:Nat):Abs prog 259 [AQ [ex (.bool b),wD (Aw m)],AQ [ex (.bool z),wD (Aw n)]] (ex (.int .i64 (Abi b m z n))):=by
 cases b<;>cases z
 .refine Ab func259 λw=>?_
  rw[ntmps259];have H:=HE m n;exact Zfx
 .refine Ab func259 λw=>?_
  rw[ntmps259];exact Zfx
 .refine Ab func259 λw=>?_
  rw[ntmps259];exact Zfx
 .refine Ab func259 λw=>?_
  rw[ntmps259];have P:=HE n m;exact Zfx
theorem LW(x y:Nat):Fx x y=((x:Int)-y).sign:=by
 unfold Fx;rcases Ycm x y with h | h | h
 .rw [Yan h,Ybj ZbG]
 .subst h;simp
 .rw [Yai ZbG,Yan h,Ybq ZbG]
theorem A3u(x y:Int):Abi (decide (x<0)) x.natAbs (decide (y<0)) y.natAbs=(x-y).sign:=by
 by_cases C:x<0<;>by_cases N:y<0
 .rw [Yak C,Yak N]
  show Fx _ _=_;rw[LW];exact Zhe
 .rw [Yak C,Yad N]
  show(-1:Int)=_;rw[Ybj ZbG]
 .rw [Yad C,Yak N]
  show(1:Int)=_;rw[Ybq ZbG]
 .rw [Yad C,Yad N]
  show Fx _ _=_;rw[LW];exact Zhe
theorem A3K(x y:Int):Abs prog 259 [AQ (Cv x),AQ (Cv y)] (ex (.int .i64 (x-y).sign)):=by
 rw[<-A3u];exact A3J _ _ _ _
theorem A5M(x y:Int):Abs prog 233 [AQ (Cv x),AQ (Cv y)] (ex (.int .i64 (x-y).sign)):=by
 have C:x.sign=-1/\x<0\/x.sign=0/\x=0\/x.sign=1/\0<x:=by
  rcases YdI x 0 with h | h | h
  .exact Zkb
  .exact Zkc
  .exact Zkd
 have N:y.sign=-1/\y<0\/y.sign=0/\y=0\/y.sign=1/\0<y:=by
  rcases YdI y 0 with h | h | h
  .exact Zkb
  .exact Zkc
  .exact Zkd
 rcases(show x.sign<y.sign\/y.sign<x.sign\/(x.sign=y.sign/\x.sign<0)\/(x.sign=y.sign/\0<=x.sign)by omega)with h | h | h | h
 .refine Ab func233 λw=>?_
  rw[ntmps233];refine Go ?_;refine Dy 4 ?_;have r:=FJ x;have d:=FJ y;refine ZfU ?_;exact AA (Am (ResV.tmp rfl rfl) (Ae (by rw[Ybj (show x-y<0 by omega)])))
 .refine Ab func233 λw=>?_
  rw[ntmps233];refine Go ?_;refine Dy 4 ?_;have O:=FJ x;have B:=FJ y;refine ZfU ?_;exact AA (Am (ResV.tmp rfl rfl) (Ae (by rw[Ybq (show 0<x-y by omega)])))
 .refine Ab func233 λw=>?_
  rw[ntmps233];refine Go ?_;refine Dy 4 ?_;have F:=FJ x;have G:=FJ y;refine Dw ?_;have I:=Qc y.natAbs x.natAbs;exact Zib
 .refine Ab func233 λw=>?_
  rw[ntmps233];refine Go ?_;refine Dy 4 ?_;have q:=FJ x;have A:=FJ y;refine Dw ?_;have o:=Qc x.natAbs y.natAbs;exact Zib
theorem PP(x y:Int)(C:(Aw x.natAbs).length<=1000000000)(N:(Aw y.natAbs).length<=1000000000):Abs prog 234 [slD 109 2 [Cv x,Cv y]] (AQ (Cv (x*y))):=by
 have K:=JQ x;have T:=JQ y;have X:=JQ 1;rw[Yak rfl]at X;refine Ab func234 λw=>?_;rw[ntmps234];have B:=VI 1 ZbG ZbG;refine Go ?_;refine AF (λv c=>∃(r:Int) (k:Nat),(v=2/\r=1/\k=0\/v=1/\r=x/\k=1\/v=0/\r=x*y/\k=2)/\c=⟨[(2,.ptr 0 0),(3,.ptr 1 0),(7,.d (slD 109 2 [Cv x,Cv y])),(8,.d (ex (.int .i64 2))),(9,.d (ex (.int .i64 (k:Nat))))],[.var 109 ([ex (.bool false),ex (.slice none 0 0)].map .d),.var 109 ((Cv r).map .d)]⟩) ?le ⟨1,0,.inl ⟨rfl,rfl,rfl⟩,rfl⟩ ?round
 case le=>exact Ac Zcm ZcA
 case round=>
  rintro v _ ⟨r,k,⟨rfl,rfl,rfl⟩ | ⟨rfl,rfl,rfl⟩ | ⟨rfl,rfl,rfl⟩,rfl⟩
  .by_cases q:x=1
   .rw [Yak q]at K
    refine Go ?_;refine Ai 1 ZbG ⟨x,1,.inr (.inl ⟨rfl,rfl,rfl⟩),rfl⟩ ?_;exact Ac Zcm (by apply Yv;(refine HpLe.cons (OwLe.varD (by rw[q]<;>rfl)) ?_);exact HpLe.nil)
   .rw [Yad q]at K
    refine Go ?_;refine Ai 1 ZbG ⟨x,1,.inr (.inl ⟨rfl,rfl,rfl⟩),rfl⟩ ?_;exact Ac Zcm ZcA
  .by_cases A:y=1
   .rw [Yak A]at T
    refine Zhi ?_;exact Ac Zcm (by apply Yv;(refine HpLe.cons (OwLe.varD (by rw[A,Int.mul_one]<;>rfl)) ?_);exact HpLe.nil)
   .rw [Yad A]at T
    by_cases q:r=1
    .rw [Yak q]at K
     refine Zhi ?_;exact Ac Zcm (by apply Yv;(refine HpLe.cons (OwLe.varD (by rw[q,Yei]<;>rfl)) ?_);exact HpLe.nil)
    .rw [Yad q]at K
     have E:=VP r y ZbG ZbG;refine Zhi ?_;exact Ac Zcm ZcA
  .exact ZaQ
def ID(p q:Rat):Int:=(p.num*(q.den:Int)-q.num*(p.den:Int)).sign
theorem No(p q:Rat)(G:RSz p 1000000000)(k:RSz q 1000000000):Abs prog 136 [AQ (DB p),AQ (DB q)] (ex (.int .i64 (ID p q))):=by
 have L:=p.den_pos;have x:=q.den_pos
 have C:p.num.sign=-1/\p.num<0\/p.num.sign=0/\p.num=0\/p.num.sign=1/\0<p.num:=by
  rcases YdI p.num 0 with h | h | h
  .exact Zkb
  .exact Zkc
  .exact Zkd
 have N:q.num.sign=-1/\q.num<0\/q.num.sign=0/\q.num=0\/q.num.sign=1/\0<q.num:=by
  rcases YdI q.num 0 with h | h | h
  .exact Zkb
  .exact Zkc
  .exact Zkd
 rcases(show p.num.sign<q.num.sign\/q.num.sign<p.num.sign\/p.num.sign=q.num.sign by omega)with h | h | h
 .have V:ID p q=-1:=by
   refine Ybj ?_;rcases(show(p.num<0/\0<=q.num)\/(p.num<=0/\0<q.num)by omega)with⟨A,B⟩ | ⟨A,B⟩
   .have K:p.num*(q.den:Int)<0:=Yes A ZbG
    have Y:0<=q.num*(p.den:Int):=Yco B ZbG;omega
   .have K:p.num*(q.den:Int)<=0:=Ydq A ZbG
    have Y:0<q.num*(p.den:Int):=YeN B ZbG;omega
  rw[V];refine Ab func136 λw=>?_;rw[ntmps136];refine Go ?_;refine Dy 4 ?_;have H:=EL p;have P:=EL q;refine Dw ?_;refine Go ?_;exact Yf
 .have V:ID p q=1:=by
   refine Ybq ?_;rcases(show(q.num<0/\0<=p.num)\/(q.num<=0/\0<p.num)by omega)with⟨A,B⟩ | ⟨A,B⟩
   .have K:q.num*(p.den:Int)<0:=Yes A ZbG
    have Y:0<=p.num*(q.den:Int):=Yco B ZbG;omega
   .have K:q.num*(p.den:Int)<=0:=Ydq A ZbG
    have Y:0<p.num*(q.den:Int):=YeN B ZbG;omega
  rw[V];refine Ab func136 λw=>?_;rw[ntmps136];refine Go ?_;refine Dy 4 ?_;have r:=EL p;have d:=EL q;refine Dw ?_;refine Go ?_;exact Yf
 .refine Ab func136 λw=>?_
  rw[ntmps136];refine Go ?_;refine Dy 4 ?_;have O:=EL p;have E:=EL q;refine ZfU ?_;refine Dy 13 ?_;have F:=PP p.num q.den G.1 k.2;have I:=PP q.num p.den k.1 G.2;have J:=A5M (p.num*q.den) (q.num*p.den);exact Zhb
theorem A3G(p q:Rat)(G:RSz p 1000000000)(k:RSz q 1000000000):Abs prog 230 [AQ (DB p),AQ (DB q)] (ex (.int .i64 (ID p q))):=by
 refine Ab func230 λw=>?_;rw[ntmps230];refine Go ?_;refine Dy 11 ?_;have A:=Zt p.num q.den (Yat G.1 ZbG) (Yat k.2 ZbG);have I:=Zt q.num p.den (Yat k.1 ZbG) (Yat G.2 ZbG);have o:=A3K (p.num*q.den) (q.num*p.den);exact Zhb
structure RTm where
 b:Bool
 l:List Nat
 b':Bool
 l':List Nat
 m:Nat->Int
instance:Inhabited RTm:=⟨⟨false,[],false,[],λ_=>0⟩⟩
def rtC(r:RTm):List D:=A54 r.b r.l r.b' r.l'++CE r.m
def Kc(L:List RTm):D:=slD 114 12 (L.map rtC)
def Fj(L:List RTm)(k:Nat):RTm:=L.getD k default
def tOk(r:RTm):Prop:=QOk r.b r.l r.b' r.l'/\r.l≠[]/\In8 r.m 0 65535
def HW(L:List RTm):Prop:=∀k,k<L.length->tOk (Fj L k)/\(0<k->0<Ih (Fj L (k-1)).m (Fj L k).m)
def AaU(L:List RTm):Prop:=∀r∈L,BN r.l/\BN r.l'/\r.l.length<=1000000000/\r.l'.length<=1000000000
theorem A4W{L:List RTm}(h:n<L.length):Fj L n∈L:=by
 unfold Fj;exact Zge
open Classical in
theorem A1k(L:List RTm)(u:AaU L)(A:L.length<=1000000):Abs prog 244 [Kc L] (ex (.bool (decide (HW L)))):=by
 refine Ab func244 λw=>?_;rw[ntmps244];refine Go ?_;refine AF (λv c=>∃k,k<=L.length/\v=L.length-k/\(∀j,j<k->tOk (Fj L j)/\(0<j->0<Ih (Fj L (j-1)).m (Fj L j).m))/\c=⟨[(0,.d (Kc L)),(5,.d (Kc L)),(6,.d (ex (.int .i64 (L.length:Nat)))),(7,.d (ex (.int .i64 (k:Nat))))],[]⟩) ?le ⟨0,by omega,rfl,λj W=>absurd W (Ybg j),rfl⟩ ?round
 case le=>exact ZjY
 case round=>
  rintro v _ ⟨k,B,rfl,E,rfl⟩;by_cases O:k<L.length
  .obtain ⟨y,o,X,H⟩:=u _ (A4W O)
   have K:=RH (Fj L k).b (Fj L k).l (Fj L k).b' (Fj L k).l' y o X H;by_cases C:QOk (Fj L k).b (Fj L k).l (Fj L k).b' (Fj L k).l'
   .rw [Yak C]at K
    obtain⟨q,J,G,I,M⟩:=id C;have T:=EL q;have p:DB q=A54 (Fj L k).b (Fj L k).l (Fj L k).b' (Fj L k).l':=by rw[J,G,I,M];rfl
    rw[p]at T;by_cases N:q=0
    .have Z:=DI.2 N
     have V:¬HW L:=λh=>(h k O).1.2.1 (by rw[G,N];exact BL);rw[Yad V];exact Zfx
    .have Z:q.num.sign≠0:=λe=>N (DI.1 e)
     by_cases x:In8 (Fj L k).m 0 65535
     .have Q:tOk (Fj L k):=⟨C, λe=>by rw [G] at e; have:=Br.1 (by rw [e]; rfl); exact A1W N ZbG, x⟩
      rcases Yax k with d | d
      .subst d
       have S:=KV (Fj L 0).m x;refine Go ?_;refine Dy 14 ?_;refine ZfU ?_;refine Ai (L.length-1) ZbG ⟨1,by omega,rfl,λj W=>by obtain rfl:j=0:=ZbG;exact⟨Q,λh=>absurd h (Ycf _)⟩,rfl⟩ ?_;exact ZjY
      .by_cases F:0<Ih (Fj L (k-1)).m (Fj L k).m
       .have Y:=KV (Fj L k).m x;refine Go ?_
        refine Dy 14 ?_;have a:=Sg (Fj L (k-1)).m (Fj L k).m;refine ZfU ?_;refine Ai (L.length-(k+1)) ZbG ⟨k+1,by omega,rfl,λj W=>?_,rfl⟩ ?_
        .rcases Nat.lt_succ_iff_lt_or_eq.1 W with h | rfl
         .exact E j h
         .exact ⟨Q,λ_=>F⟩
        .exact ZjY
       .have V:¬HW L:=λh=>F ((h k O).2 d)
        rw[Yad V];have b:=KV (Fj L k).m x;refine Go ?_;refine Dy 14 ?_;have f:=Sg (Fj L (k-1)).m (Fj L k).m;exact Zhb
     .have V:¬HW L:=λh=>x (h k O).1.2.2
      rw[Yad V];have g:=Yc (Fj L k).m x;exact Zfx
   .rw [Yad C]at K
    have V:¬HW L:=λh=>C (h k O).1.1;rw[Yad V];exact Zfx
  .obtain rfl:k=L.length:=by omega
   have i:HW L:=E;rw[Yak i];exact Zfx
theorem Wz(a:Nat->Int)(h:In8 a 0 65535):Abs prog 249 [AQ (CE a)] (ex (.bool true)):=by
 refine Ab func249 λw=>?_;rw[ntmps249];refine Go ?_;refine AF (λv c=>∃k,k<=8/\v=8-k/\c=⟨[(1,.ptr 0 0),(2,.d (ex (.bool false))),(3,.d (ex (.int .i64 (k:Nat))))],[.var 112 ((CE a).map .d)]⟩) ?le ⟨0,by omega,rfl,rfl⟩ ?round
 case le=>exact Ac Zck ZcG
 case round=>
  rintro v _ ⟨k,B,rfl,rfl⟩;by_cases O:k<8
  .have M:=h k O
   refine Go ?_;exact Zil
  .obtain rfl:k=8:=by omega
   exact Zfx
def DK(t:Tm):RTm:=⟨decide (t.c.num<0),Aw t.c.num.natAbs,decide ((t.c.den:Int)<0),Aw (t.c.den:Int).natAbs,t.m⟩
theorem Jd(P:List Tm):BP P=Kc (P.map DK):=by
 unfold BP Kc;rw[Yce];rfl
theorem Vu(h:n<vb.length):Fj (vb.map DK) n=DK (Bv vb n):=by
 unfold Fj Bv;rw[Yab,Yau,Yac h];simp[Yab,Yac h]
theorem A9q(t:Tm):QOk (DK t).b (DK t).l (DK t).b' (DK t).l':=⟨t.c,rfl,rfl,rfl,rfl⟩
theorem A9M(h:∀k,k<vb.length->0<k->0<lx (Bv vb (k-1)).m (Bv vb k).m):Dec vb:=by
 unfold Dec;rw[YcO]
 have key:∀d i,i+d+1<vb.length->0<lx (Bv vb i).m (Bv vb (i+d+1)).m:=by
  intro d
  induction d with
  |zero=>intro i J;have:=h (i+1) J ZbG;exact ZjO
  |succ d v=>
   intro i J;have q:=v i ZbG;have A:=h (i+(d+1)+1) J ZbG;rw[show i+(d+1)+1-1=i+d+1 by omega]at A;exact Sh q A
 intro i j J W r;have q:=key (j-i-1) i ZbG;rw[show i+(j-i-1)+1=j by omega]at q;have e:∀k (B:k<vb.length),Bv vb k=vb[k]:=λk B=>Zke
 rwa [e i J,e j W]at q
theorem A9N(h:Dec vb)(B:n<vb.length)(d:0<n):0<lx (Bv vb (n-1)).m (Bv vb n).m:=by
 unfold Dec at h;rw[YcO]at h;have e:∀n (B:n<vb.length),Bv vb n=vb[n]:=λn B=>Zke
 rw[e _ B,e (n-1) ZbG];exact h (n-1) n ZbG B ZbG
theorem Xk(h:Canon vb)(J:PIn vb 0 65535):HW (vb.map DK):=λk B=>by
 rw[Yap]at B;rw[Vu B];refine⟨⟨A9q _,λe=>?_,J _ (Dz B)⟩,λd=>?_⟩
 .have q:=h.2 _ (Dz B)
  have A:Aw (Bv vb k).c.num.natAbs=[]:=e;have:=Br.1 (show(Aw (Bv vb k).c.num.natAbs).length=0 by rw[A];rfl);exact A1W q ZbG
 .rw [Vu ZbG]
  show 0<Ih (Bv vb (k-1)).m (Bv vb k).m;rw[<-MM];exact A9N h.1 B d
theorem A6n(i:Nat)(J:i<8):Abs prog 94 [ex (.int .i64 (i:Nat))] (Gb [BP [⟨1,IX i⟩],ex (.int .i64 0)]):=by
 refine Ab func94 λw=>?_;rw[ntmps94];refine Y1<|Wa<|Wa<|Y0<|Ah<|Y1<|Wm ?_;refine Wq AO ?_;refine Wm ?_;refine Wg AL ?_;refine Wg AO ?_;refine Wq BT ?_;refine Y0<|Cf<|Ys<|Y1 ?_;(refine Df rfl rfl ?_;(refine LA (Aa rfl) (Aa rfl) rfl rfl ?_;(repeat ((first | refine⟨_,Az (ao rfl),?_⟩ | refine⟨_,Po rfl,?_⟩);refine⟨_,rfl,?_⟩));refine⟨_,rfl,?_⟩));refine Al ?_;refine Sf ?_;refine Y0<|Y1<|Wm ?_;refine Wq SV ?_
 refine A6Y 0 (CE λ_=>0) rfl rfl rfl ?_;refine Go ?_;refine Dy 4 ?_;have r:=EW 1 ZbG ZbG;refine ZfU ?_;exact AA (Rets.of2 (ResV.tmp rfl rfl) (ResV.tmp rfl rfl) (Co (D.le.refl _) (D.le.refl _)))
def A0p(a b:Nat->Int)(k:Nat):Nat->Int:=λj=>if j<k then a j+b j else a j
theorem A5s(a b:Nat->Int)(k:Nat):RA (A0p a b k) k (a k+b k)=A0p a b (k+1):=by
 funext j;simp only[RA,A0p];rcases Ycm j k with h | h | h
 .rw [Yai ZbG,Yan h,Yan ZbG]
 .subst h;simp
 .rw [Yai ZbG,Yai ZbG,Yai ZbG]
theorem A7A(a b:Nat->Int)(k:Nat):A0p a b k k=a k:=Yai (Ycf k)
theorem A3H(a b:Nat->Int)(l:In8 a 0 65535)(E:In8 b 0 65535)(h:In8 (CT a b) 0 65535):Abs prog 181 [AQ (CE a),AQ (CE b)] (Gb [AQ (CE (CT a b)),ex (.int .i64 0)]):=by
 refine Ab func181 λw=>?_;rw[ntmps181];refine Go ?_;refine AF (λv c=>∃k,k<=8/\v=8-k/\c=⟨[(2,.ptr 0 0),(3,.ptr 1 0),(4,.ptr 2 0),(6,.d (ex (.int .i64 (k:Nat))))],[.var 112 ((CE (A0p a b k)).map .d),.var 112 ((CE b).map .d),.var 112 ((CE λ_=>0).map .d)]⟩) ?le ⟨0,by omega,rfl,rfl⟩ ?round
 case le=>exact Ac Zdh (by exact Yv<|Yv<|Yv<|HpLe.nil)
 case round=>
  rintro v _ ⟨k,B,rfl,rfl⟩;by_cases O:k<8
  .have q:=A7A a b k
   have A:=l k O;have K:=E k O;refine Go ?_;refine Dy 8 ?_;refine ZfU ?_;refine Ai (8-(k+1)) ZbG ⟨k+1,by omega,rfl,rfl⟩ ?_;exact Ac Zdh (by exact HpLe.cons (OwLe.varD (by rw[q,A5s]))<|Yv<|Yv<|HpLe.nil)
  .obtain rfl:k=8:=by omega
   refine Ah<|Y1<|Wm ?_;refine Wq AO ?_;refine Y0<|Cf<|Cg<|BD<|BS<|BI<|Yn<|Ah<|Y1 ?_;refine Wq AD ?_;refine Wq (AJ (Wz (A0p a b 8) λi J=>by have:=h i J;rw[A0p,Yan J];exact this)) ?_;refine Wq GT ?_;refine Y0<|Cf<|Ys<|Y1 ?_;refine Wq AD ?_;refine Sf ?_;refine Wa<|Y0<|BV ?_
   exact AA (Rets.of2 (ResV.cell rfl rfl (Aa rfl) rfl rfl rfl) (ResV.tmp rfl rfl) (Co (D.le.refl _) (D.le.refl _)))
variable{uf:List Tm}
theorem A9t{s t:Tm}(h:lx s.m t.m=1):Jg (s::vb) (t::uf)=s::Jg vb (t::uf):=by
 rw[Jg,Yan (show 0<lx s.m t.m by omega)]
theorem A9s{s t:Tm}(h:lx s.m t.m=-1):Jg (s::vb) (t::uf)=t::Jg (s::vb) uf:=by
 rw[Jg,Yai (show¬0<lx s.m t.m by omega),Yan (show lx s.m t.m<0 by omega)]
theorem A5q{s t:Tm}(h:lx s.m t.m=0):Jg (s::vb) (t::uf)=if s.c+t.c=0 then Jg vb uf else⟨s.c+t.c,s.m⟩::Jg vb uf:=by
 rw[Jg,Yai (show¬0<lx s.m t.m by omega),Yai (show¬lx s.m t.m<0 by omega)]
theorem VL(Q:List Tm):Jg [] Q=Q:=by rw[Jg]
theorem A6t(P Q:List Tm)(N M:Nat)(A:PSz P N)(C:PSz Q M)(K:N+M+1<=4398046511103)(h:P.length+Q.length<=100000):Abs prog 223 [BP P,BP Q] (BP (Jg P Q)):=by
 refine Ab func223 λw=>?_;rw[ntmps223];refine Go ?_;refine AF (λv c=>∃(i k:Nat) (R:List Tm),i<=P.length/\k<=Q.length/\R++Jg (P.drop i) (Q.drop k)=Jg P Q/\R.length<=i+k/\v=(P.length-i)+(Q.length-k)/\c=⟨[(0,.d (BP P)),(1,.d (BP Q)),(5,.own 0),(6,.d (ex (.int .i64 (i:Nat)))),(7,.d (ex (.int .i64 (k:Nat))))],[.row 114 12 (R.map QA)]⟩) ?le ⟨0,0,[],by omega,by omega,rfl,by simp,rfl,rfl⟩ ?round
 case le=>exact Ac Zcw Zdz
 case round=>
  rintro v _ ⟨i,k,R,J,B,heq,I,rfl,rfl⟩;by_cases m:i<P.length
  .have g:=GQ m
   by_cases f:k<Q.length
   .have X:=GQ f
    rw[g,X]at heq;have Z:=A _ (Dz m);have L:=C _ (Dz f);rcases A5B (Bv P i).m (Bv Q k).m with F | F | F
    .have S:Ih (Bv P i).m (Bv Q k).m = -1:=by rw [<-MM];exact F
     refine Go ?_;refine Dy 24 ?_;have H:=GA (Bv P i).m (Bv Q k).m;refine Dw ?_;refine Go ?_;refine Dy 18 ?_;have E:=GA (Bv P i).m (Bv Q k).m;refine Dw ?_;refine Y0<|Ct<|Y1<|Wm<|Wm<|Wm ?_;refine Wq Dp ?_;refine Wq Cb ?_;refine Wq (Cc (ao rfl) (Aa rfl) (Aa rfl) rfl rfl rfl rfl rfl) ?_;(refine Ap ?_);refine Wa<|Y0<|Y1<|Wm ?_;refine Wq CJ ?_;refine Wa<|Y0<|Cg<|BD<|BI ?_
     refine Ai ((P.length-i)+(Q.length-(k+1))) ZbG ⟨i,k+1,R++[Bv Q k],by omega,by omega,?_,by simp;omega,rfl,rfl⟩ ?_
     .rw [A9s F]at heq
      rw[<-heq,g];simp
     .exact Ac Zcw Zes
    .have S:Ih (Bv P i).m (Bv Q k).m=0:=by rw [<-MM];exact F
     by_cases u:(Bv P i).c+(Bv Q k).c=0
     .have W:=DI.2 u
      refine Go ?_;refine Dy 24 ?_;have r:=GA (Bv P i).m (Bv Q k).m;refine ZfU ?_;refine Dy 18 ?_;have d:=GA (Bv P i).m (Bv Q k).m;refine ZfU ?_;refine Dy 12 ?_;have O:=OU (Bv P i).c (Bv Q k).c N M Z L K;refine Dw ?_;have V:=Gm ((Bv P i).c+(Bv Q k).c);refine Go ?_;refine Ai ((P.length-(i+1))+(Q.length-(k+1))) ZbG ⟨i+1,k+1,R,by omega,by omega,?_,by omega,rfl,rfl⟩ ?_
      .rw [A5q F,Yan u]at heq
       exact heq
      .exact Ac Zcw Zdz
     .have W:((Bv P i).c+(Bv Q k).c).num.sign≠0:=λe=>u (DI.1 e)
      refine Go ?_;refine Dy 24 ?_;have Y:=GA (Bv P i).m (Bv Q k).m;refine ZfU ?_;refine Dy 18 ?_;have a:=GA (Bv P i).m (Bv Q k).m;refine ZfU ?_;refine Dy 12 ?_;have b:=OU (Bv P i).c (Bv Q k).c N M Z L K;refine Dw ?_;have j:=Gm ((Bv P i).c+(Bv Q k).c);refine Go ?_;refine Dy 9 ?_;refine Dw ?_
      (refine Ap ?_);refine Go ?_;refine Ai ((P.length-(i+1))+(Q.length-(k+1))) ZbG ⟨i+1,k+1,R++[⟨(Bv P i).c+(Bv Q k).c,(Bv P i).m⟩],by omega,by omega,?_,by simp;omega,rfl,rfl⟩ ?_
      .rw [A5q F,Yai u]at heq
       rw[<-heq];simp
      .exact Ac Zcw (by refine HpLe.cons (OwLe.row (IK QA R ⟨(Bv P i).c+(Bv Q k).c,(Bv P i).m⟩)) ?_;exact HpLe.nil)
    .have S:Ih (Bv P i).m (Bv Q k).m=1:=by rw [<-MM];exact F
     refine Go ?_;refine Dy 24 ?_;have l:=GA (Bv P i).m (Bv Q k).m;refine Dw ?_;refine Y0<|Ct<|Y1<|Wm<|Wm<|Wm ?_;refine Wq Dp ?_;refine Wq Cb ?_;refine Wq (Cc (ao rfl) (Aa rfl) (Aa rfl) rfl rfl rfl rfl rfl) ?_;(refine Ap ?_);refine Wa<|Y0<|Y1<|Wm ?_;refine Wq CJ ?_;refine Wa<|Y0<|Cg<|BD<|BI ?_
     refine Ai ((P.length-(i+1))+(Q.length-k)) ZbG ⟨i+1,k,R++[Bv P i],by omega,by omega,?_,by simp;omega,rfl,rfl⟩ ?_
     .rw [A9t F]at heq
      rw[<-heq,X];simp
     .exact Ac Zcw Zer
   .refine Go ?_
    refine Dy 24 ?_;refine Dw ?_;refine Y0<|Ct<|Y1<|Wm<|Wm<|Wm ?_;refine Wq Dp ?_;refine Wq Cb ?_;refine Wq (Cc (ao rfl) (Aa rfl) (Aa rfl) rfl rfl rfl rfl rfl) ?_;(refine Ap ?_);refine Wa<|Y0<|Y1<|Wm ?_;refine Wq CJ ?_;refine Wa<|Y0<|Cg<|BD<|BI ?_
    refine Ai ((P.length-(i+1))+(Q.length-k)) ZbG ⟨i+1,k,R++[Bv P i],by omega,by omega,?_,by simp;omega,rfl,rfl⟩ ?_
    .have q:Q.drop k=[]:=YaL ZbG
     rw[g,q,A29]at heq;rw[<-heq,q,A29];simp
    .exact Ac Zcw Zer
  .have G:P.drop i=[]:=YaL ZbG
   by_cases f:k<Q.length
   .have X:=GQ f
    refine Go ?_;refine Dy 24 ?_;refine Dw ?_;refine Go ?_;refine Dy 18 ?_;refine Dw ?_;refine Y0<|Ct<|Y1<|Wm<|Wm<|Wm ?_;refine Wq Dp ?_;refine Wq Cb ?_;refine Wq (Cc (ao rfl) (Aa rfl) (Aa rfl) rfl rfl rfl rfl rfl) ?_;(refine Ap ?_);refine Wa<|Y0<|Y1<|Wm ?_;refine Wq CJ ?_;refine Wa<|Y0<|Cg<|BD<|BI ?_
    refine Ai ((P.length-i)+(Q.length-(k+1))) ZbG ⟨i,k+1,R++[Bv Q k],by omega,by omega,?_,by simp;omega,rfl,rfl⟩ ?_
    .rw [X,G,VL]at heq
     rw[<-heq,G,VL];simp
    .exact Ac Zcw Zes
   .refine Go ?_
    have q:Q.drop k=[]:=YaL ZbG;exact AA (Am (ResV.tmp rfl rfl) (Ae (by rw[<-heq,G,q,VL,YbC];rfl)))
