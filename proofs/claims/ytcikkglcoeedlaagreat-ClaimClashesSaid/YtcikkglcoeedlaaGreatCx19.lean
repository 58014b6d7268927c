/- Part 19 of the proof of claimClashes_holds. No condition. -/
import Derived.Test.YtcikkglcoeedlaaGreatCx18
set_option linter.unusedSimpArgs false
set_option linter.unusedVariables false
set_option maxRecDepth 100000
namespace Go.Proofs.YtcikkglcoeedlaaGreat
open Go.RowKit
variable{vc:AS}{uq:AS->Prop}{g:AV}{vI:Array Field}{vs:Array TypeId}{vz:Array Value}{vT:BinOp}{p ul:Bool}{vn ua:Code}{r:D}{vl:Exit->AS->Prop}{vP:Field}{vK:Func}{vb:FuncId}{s:GS}{a J vQ vR:Int}{i:IntKind}{vp up:List (List D)}{vd:List (Nat×AV)}{o:List AV}{c vk:List D}{l f vm:List Nat}{vf uL:List Oper}{vJ:List Operand}{H vw:List Ow}{j:Type}{vE:List j}{n b T m e k va vo uk:Nat}{ve:Nat->Int}{q:Oper}{x y vX:Operand}{P:Program}{d:TypeDesc}{t U:TypeId}{z v ui:Value}{w:World}{vY:j->List D}
section
variable {P:Program} {hp:List Ow} {arg:Operand->AV} {dd:Option Tmp} {ty:TypeId} {ps:String} {af:Array Edge} {gd:Option (Nat×Bool)}
theorem NM(C:arg x=.d (wD l))(M:Tab P t (.slice n) b T z):Quiet P hp ⟨dd,.call { callee:=.builtin .len,args:=#[x],argTypes:=#[t] },ty,ps,af,gd⟩ arg (.d (ex (.int .i64 (l.length:Nat)))):=by
 refine⟨λbase s S j E w a h=>?_⟩;have u:=h x Zcv;rw[C]at u;obtain⟨A,c,d,B⟩:=u.1;rw[List.length_map]at d;refine BL (v:=.int .i64 l.length) ?_ ⟨GS.Le.refl s,rfl⟩;simp[execOp,resolve,invoke,builtin,d,Builtin.len_,run_underlying M.und,goInt]
theorem Kb{e n b L k:Nat}(E:arg x=.d (wD l))(N:arg y=.d (ex (.int i ((k:Nat):Int))))(M:Tab P t (.slice e) n b z)(a:Tab P e d 1 L v)(C:k<l.length):Quiet P hp ⟨dd,.indexAddr t x y,ty,ps,af,gd⟩ arg (.d (Et 335 [ex (.int .u32 (l.getD k 0:Nat))])):=by
 refine⟨λbase s S j T w R h=>?_⟩;have u:=h x Zcp;have B:=h y Zcp;rw[E]at u;rw[N]at B;have K:j y=.int i ((k:Nat):Int):=B;obtain⟨A,c,G,I,V,m⟩:=u.1;rw[List.length_map]at G m;obtain⟨g,p,rfl,O⟩:=m Zbx;have Q:=(O k C).2
 have U:(l.map λx=>[ex (.int .u32 (x:Nat))]).getD k []=[ex (.int .u32 (l.getD k 0:Nat))]:=by
  simp[List.getD_eq_getElem?_getD,C]
 rw[U]at Q;refine BL (v:=.pointer (some ⟨g,p+k*1,none⟩)) ?_ ⟨GS.Le.refl s,g,_,rfl,Q⟩;have F:k<l.length:=C;simp[execOp,G,K,Instr.indexAt,asIntOf,run_underlying M.und,F,a.run_size,Addr.add_lit]
end
theorem If(z:Int):Abs Tryz.prog 285 [AL (Ci z)] (ex (.bool (decide (z=1)))):=by
 refine Bv (Ag Tryz.func285 Zbz Zbz) λs F T L o=>?_;rw[vs1 L];obtain⟨r,j,A,p,f,g⟩:=DD (o 0 ZbK);rw[f];exact(Ze r j A p z _ g).mono λe O ⟨a,X⟩=>⟨_,a,X,λc V u _ _=>rfl⟩
theorem ED(z:Int):Abs Tryz.prog 235 [AL (Ci z)] (ex (.int .i64 z.sign)):=by
 refine Bv (Ag Tryz.func235 Zbz Zbz) λs F T L o=>?_;rw[vs1 L];obtain⟨r,j,A,p,f,g⟩:=DD (o 0 ZbK);rw[f];exact(A0k r j A p z _ g).mono λe O ⟨a,X⟩=>⟨_,a,X,λc V u _ _=>rfl⟩
theorem NI(x y:Int)(h:(Ao x.natAbs).length<=4398046511104)(B:(Ao y.natAbs).length<=4398046511104):Abs Tryz.prog 290 [AL (Ci x),AL (Ci y)] (AL (Ci (Nat.gcd x.natAbs y.natAbs:Nat))):=by
 refine Bv (Ag Tryz.func290 Zbz Zbz) λs F T L o=>?_;rw[Yj L];obtain⟨r,j,G,p,f,g⟩:=DD (o 0 ZbK);obtain⟨K,S,E,A,d,u⟩:=DD (o 1 ZbK);rw[f,d];exact(A2R r K j S G p E A x y _ g u h B).mono λe O ⟨y,Y,m,k,a,Z,X⟩=>⟨_,a,X,λc V C _ _=>by subst V;exact GB C Z⟩
theorem Sn(x y:Int)(h:(Ao x.natAbs).length<=4398046511104)(B:(Ao y.natAbs).length<=4398046511104):Abs Tryz.prog 286 [AL (Ci x),AL (Ci y)] (AL (Ci (x*y))):=by
 refine Bv (Ag Tryz.func286 Zbz Zbz) λs F T L o=>?_;rw[Yj L];obtain⟨r,j,G,p,f,g⟩:=DD (o 0 ZbK);obtain⟨K,S,E,A,d,u⟩:=DD (o 1 ZbK);rw[f,d];exact(A2H r K j S G p E A x y _ g u h B).mono λe O ⟨y,Y,m,k,a,Z,X⟩=>⟨_,a,X,λc V C _ _=>by subst V;exact GB C Z⟩
theorem Si(z:Int)(g:-9223372036854775808<=z)(u:z<=9223372036854775807):Abs Tryz.prog 139 [ex (.int .i64 z)] (AL (Ci z)):=by
 refine Bv (Ag Tryz.func139 Zbz Zbz) λs F T L o=>?_;rw[vs1 L];have f:F.getD 0 undef=.int .i64 z:=o 0 ZbK;rw[f];exact(A4f z _ g u).mono λe O ⟨y,Y,m,k,a,Z,X⟩=>⟨_,a,X,λc V A _ _=>by subst V;exact GB A Z⟩
theorem A1t(x y:Int)(h:(Ao x.natAbs).length<=4398046511103)(B:(Ao y.natAbs).length<=4398046511103):Abs Tryz.prog 226 [AL (Ci x),AL (Ci y)] (AL (Ci (Nat.gcd x.natAbs y.natAbs:Nat))):=by
 refine Bv (Ag Tryz.func226 Zbz Zbz) λs F T L o=>?_;rw[Yj L];obtain⟨r,j,G,p,f,g⟩:=DD (o 0 ZbK);obtain⟨K,S,E,A,d,u⟩:=DD (o 1 ZbK);rw[f,d];exact(A1s r K j S G p E A x y _ g u h B).mono λe O ⟨y,Y,m,k,a,Z,X⟩=>⟨_,a,X,λc V C _ _=>by subst V;exact GB C Z⟩
theorem Lw(z:Int)(g:-9223372036854775808<=z)(u:z<=9223372036854775807):Abs Tryz.prog 141 [ex (.int .i64 z)] (AL (Ci z)):=by
 refine Bv (Ag Tryz.func141 Zbz Zbz) λs F T L o=>?_;rw[vs1 L];have f:F.getD 0 undef=.int .i64 z:=o 0 ZbK;rw[f];exact(A3g z _ g u).mono λe O ⟨y,Y,m,k,a,Z,X⟩=>⟨_,a,X,λc V A _ _=>by subst V;exact GB A Z⟩
theorem Nd(x y:Nat):Abs Tryz.prog 284 [wD (Ao x),wD (Ao y)] (ex (.int .i64 (EQ x y))):=by
 refine Bv (Ag Tryz.func284 Zbz Zbz) λs F T L o=>?_;rw[Yj L];exact(HC _ _ x y _ (Ec (o 0 ZbK)) (Ec (o 1 ZbK))).mono λe O ⟨a,X⟩=>⟨_,a,X,λc V u _ _=>rfl⟩
theorem Ks(x y:Nat):Abs Tryz.prog 276 [wD (Ao x),wD (Ao y)] (ex (.int .i64 (EQ x y))):=by
 refine Bv (Ag Tryz.func276 Zbz Zbz) λs F T L o=>?_;rw[Yj L];exact(FT _ _ x y _ (Ec (o 0 ZbK)) (Ec (o 1 ZbK))).mono λe O ⟨a,X⟩=>⟨_,a,X,λc V u _ _=>rfl⟩
section
variable {P:Program} {hp:List Ow} {arg:Operand->AV} {dd:Option Tmp} {ty:TypeId} {ps:String} {af:Array Edge} {gd:Option (Nat×Bool)}
theorem PN(C:arg x=.d (ex (.int .i64 a)))(u:-9223372036854775807<=a)(A:a<=9223372036854775807):Quiet P hp ⟨dd,.unOp .neg t x,ty,ps,af,gd⟩ arg (.d (ex (.int .i64 (-a)))):=by
 refine⟨λbase s S j T w B h=>?_⟩;have I:=h x Zcp;rw[C]at I;have d:j x=.int .i64 a:=I;have v:IntKind.i64.wrap (-a)=-a:=IntWalk.i64_in _ Zbx;exact BL (v:=.int .i64 (-a)) (by simp[execOp,d,Op.unary,Op.intArith,v]) ⟨GS.Le.refl s,rfl⟩
theorem FN(C:arg x=.d (ex (.int i a)))(l:Tab P t d n b z)(g:Tab P U (.int .i64) T m v)(u:-9223372036854775808<=a)(A:a<=9223372036854775807):Quiet P hp ⟨dd,.convert t U x,ty,ps,af,gd⟩ arg (.d (ex (.int .i64 a))):=by
 have:=NO (hp:=hp) (dd:=dd) (ty:=ty) (ps:=ps) (af:=af) (gd:=gd) C l g;rwa [IntWalk.i64_in _ Zbx]at this
theorem LH{T U:TypeId}(C:arg x=.d (ex (.int .i64 1)))(N:arg y=.d (ex (.int .i64 (n:Nat))))(u:(n:Int)<9223372036854775807):Quiet P hp ⟨dd,.binOp .add T x y U,ty,ps,af,gd⟩ arg (.d (ex (.int .i64 ((n+1:Nat):Int)))):=by
 have:=MC (P:=P) (hp:=hp) (dd:=dd) (ty:=ty) (ps:=ps) (af:=af) (gd:=gd) (T:=T) (U:=U) C N Zbx Zbx;rwa [show(1:Int)+n=((n+1:Nat):Int)by omega]at this
end
section
variable {P:Program} {hp:List Ow} {arg:Operand->AV} {dd:Option Tmp} {ty:TypeId} {ps:String} {af:Array Edge} {gd:Option (Nat×Bool)}
theorem ST(C:arg x=.d (Et va c))(N:arg y=.d (ex (.int i a)))(M:Tab P t (.array k n) b T z)(u:Tab P n d m e v)(g:0<=a)(L:a<k)(Y:Nb (a.toNat*m) c=some vk):Quiet P hp ⟨dd,.indexAddr t x y,ty,ps,af,gd⟩ arg (.d (Et va vk)):=by
 rw[(Lk Y).1];exact LF (o:=⟨dd,.indexAddr t x y,ty,ps,af,gd⟩) rfl C N M u g L
theorem SS(C:arg x=.ptr va vo)(N:arg y=.d (ex (.int i a)))(M:Tab P t (.array k n) b T z)(u:Tab P n d m e v)(g:0<=a)(L:a<k):Quiet P hp ⟨dd,.indexAddr t x y,ty,ps,af,gd⟩ arg (.ptr va (vo+a.toNat*m)):=
 LE (o:=⟨dd,.indexAddr t x y,ty,ps,af,gd⟩) rfl C N M u g L
end
def r5C(r:Nat->Int):List D:=[ex (.int .i8 (r 0)),ex (.int .i8 (r 1)),ex (.int .i8 (r 2)),ex (.int .i8 (r 3)),ex (.int .i8 (r 4))]
theorem A4b(h:n<5):Df (r5C ve) n=ex (.int .i8 (ve n)):=by
 match n,h with
 |0,_=>rfl
 |1,_=>rfl
 |2,_=>rfl
 |3,_=>rfl
 |4,_=>rfl
theorem CellAt.r5(h:n<5):CellAt ((r5C ve).drop (n*1)) 0 (ex (.int .i8 (ve n))):=by
 rw[Nat.mul_one];refine⟨by rw[List.length_drop];show 0<5-n;omega,?_⟩;rw[Ij];exact A4b h
def r5D(T:Nat)(X:List (Nat->Int)):D:=slD T 5 (X.map r5C)
def Fy(X:List (Nat->Int))(k:Nat):Nat->Int:=X.getD k default
theorem Ub{X:List (Nat->Int)}(h:n<X.length):Fy X n∈X:=by
 unfold Fy;exact ZeS
inductive AddE(e:Nat):List Oper->List Oper->Prop
 |nil:AddE e [] []
 |keep {o:Oper} {l l':List Oper} (h:AddE e l l'):AddE e (o::l) (o::l')
 |add {dd:Option Tmp} {op:Op} {ty:TypeId} {ps:String} {af:Array Edge} {gd:Option (Nat×Bool)} {l l':List Oper} (h:AddE e l l'):AddE e (⟨dd,op,ty,ps,af,gd⟩::l) (⟨dd,op,ty,ps,af.push ⟨e,.data⟩,gd⟩::l')
theorem AddE.length{e:Nat}{l l':List Oper}(h:AddE e l l'):l.length=l'.length:=by
 induction h<;>simp_all
theorem AddE.at{e:Nat}{l q:List Oper}(h:AddE e l q):∀(i:Nat) (o:Oper),l[i]? = some o->∃k,q[i]? = some k/\(k=o\/k={ o with after:=o.after.push ⟨e,.data⟩ }):=by
 induction h with
 |nil=>intro i o n;simp at n
 |keep h u=>
  intro i o n
  cases i with
  |zero=>simp at n;subst n;exact⟨_,by simp,.inl rfl⟩
  |succ i=>simpa using u i o Zef
 |add h u=>
  intro i o n
  cases i with
  |zero=>simp at n;subst n;exact⟨_,by simp,.inr rfl⟩
  |succ i=>simpa using u i o Zef
def VM(e:Nat)(L u:List Oper):Bool:=
 match L[e]?,u[e]? with
 |some x,some A=>(match x.op with |.extract _ _=>true |.move _=>true |_=>false)&&x.guard.isNone&&(Bp x==Bp A) &&
  ((List.range L.length).all λi=>match L[i]?,u[i]? with
   |some o,some k=>(Bp o==Bp k)||(Bp x).all λj=>(Bp o).contains j
   |_,_=>false) &&
  ((List.range L.length).all λj=>j==e||match L[j]? with
   |some o=>(Bp o).contains e||(Bp x).contains j||x.apart L.toArray o
   |none=>false) &&
  L.all λo=>Bz o.op
 |_,_=>false
theorem Uf{a:Act}(u:(∃x n,q.op=.extract x n)\/∃x,q.op=.move x):(∃v,∀w,(execOp a.eval q).run P w=.ok (.value v) w)\/∀(K:Act->World->Prop) (Q:Exit->Act->World->Prop) w,¬q.wp P a w K Q:=by
 rcases u with⟨x,n,u⟩ | ⟨x,u⟩
 case inr=>exact .inl ⟨a.eval x,λw=>by simp[execOp,u]⟩
 cases C:a.eval x with
 |tuple Z=>
  cases G:Z[n]? with
  |some v=>exact .inl ⟨v,λw=>by simp[execOp,u,Instr.extract,C,G]⟩
  |none=>
   refine .inr λK Q w V=>?_;simp[Oper.wp,execOp,u,Instr.extract,C,G,stuck,Oper.upon]at V
 |_=>
  refine .inr λK Q w V=>?_;simp[Oper.wp,execOp,u,Instr.extract,C,stuck,Oper.upon]at V
theorem CV{L:List Oper}{listed:Array Bool}(w:listed.size=L.length)(F:L[n]? = some q):n∈Region.ready .any L.toArray listed↔listed.getD n false=false/\∀k∈Bp q,listed.getD k false=true:=by
 have Q:n<listed.size:=by rw[w];exact(List.getElem?_eq_some_iff.1 F).1
 rw[mem_ready];have e:listed.getD n true=listed.getD n false:=by simp[Q]
 rw[e];refine and_congr_right λ_=>⟨λ⟨C,u,A⟩ k B=>?_,λh=>⟨q,by simpa using F,λe a E=>h _ (JM a E)⟩⟩;obtain rfl:C=q:=by rw[List.getElem?_toArray,F]at u;exact(Option.some.inj u).symm
 obtain⟨e,a,E,rfl⟩:=Ih B;exact A e a E
theorem Zh(h:b∈Bp q):b∈Bp { q with after:=q.after.push ⟨n,.data⟩ }:=by
 obtain⟨x,C,E,rfl⟩:=Ih h;exact JM (by simp[C]) E
theorem Ri(h:b∈Bp { q with after:=q.after.push ⟨n,.data⟩ }):b∈Bp q\/b=n:=by
 obtain⟨x,C,E,rfl⟩:=Ih h;rcases Array.mem_push.1 C with C | rfl
 .exact .inl (JM C E)
 .exact .inr rfl
theorem Tf{Q:Exit->Act->World->Prop}(H:AddE n vf uL)(F:VM n vf uL=true)(hQ:∀c a w,¬Q (.panic c) a w)(xn:¬LetsOut Q):∀(f:Nat) (U:Array Bool) (a:Act) (w:World),U.size=vf.length ->
  (∀j o,vf[j]? = some o->U.getD j false=true->∀k∈Bp o,U.getD k false=true) ->
  wpAny P .any uL.toArray Q f U a w->wpAny P .any vf.toArray Q f U a w:=by
 obtain⟨oe,xu,M,xg,xj,xf,xo,xp,xD,xE⟩:∃oe xu,vf[n]? = some oe/\uL[n]? = some xu/\((∃x u,oe.op=.extract x u)\/∃x,oe.op=.move x)/\oe.guard=none/\Bp oe=Bp xu/\(∀i o R,vf[i]? = some o->uL[i]? = some R->Bp o=Bp R\/∀j∈Bp oe,j∈Bp o)/\(∀j o,vf[j]? = some o->j=n\/n∈Bp o\/j∈Bp oe\/oe.apart vf.toArray o=true)/\∀o∈vf,Bz o.op=true:=by
  unfold VM at F;split at F
  .rename_i oe xu M xg
   simp only[Bool.and_eq_true]at F;obtain⟨⟨⟨⟨⟨A,B⟩,I⟩,V⟩,m⟩,y⟩:=F;refine⟨oe,xu,M,xg,?_,by simpa using B,by simpa using I,λi o R S z=>?_,λj o S=>?_,λo S=>List.all_eq_true.1 y o S⟩
   .split at A
    .exact .inl ⟨_,_,by assumption⟩
    .exact .inr ⟨_,by assumption⟩
    .cases A
   .have:=List.all_eq_true.1 V i (List.mem_range.2 (List.getElem?_eq_some_iff.1 S).1)
    rw[S,z]at this;exact Zhq
   .have:=List.all_eq_true.1 m j (List.mem_range.2 (List.getElem?_eq_some_iff.1 S).1)
    rw[S]at this;simp only[Bool.or_eq_true,beq_iff_eq]at this;simp only[List.contains_iff_mem]at this;rcases this with h | (h | h) | h
    .exact .inl h
    .exact .inr (.inl h)
    .exact .inr (.inr (.inl h))
    .exact .inr (.inr (.inr h))
  .cases F
 have X:=xj;have p:=H.length;have xq:n<vf.length:=(List.getElem?_eq_some_iff.1 M).1
 have xk:∀(j:Nat) (o:Oper) Z b,vf.toArray[j]? = some o->o.op≠.select Z b:=λj o Z b S h=>by
  have:=xE o (List.mem_of_getElem? (i:=j) (by simpa using S));rw[h]at this;cases this
 intro f
 induction f with
 |zero=>
  intro U a w q xa h;refine⟨?_,h.2⟩;have A:=h.1;refine List.eq_nil_iff_forall_not_mem.2 λi K=>?_;obtain⟨_,o,S,_⟩:=mem_ready.1 K;have S:vf[i]? = some o:=by simpa using S
  obtain⟨R,z,xs⟩:=H.at i o S;have xr:=(CV q S).1 K;by_cases Y:i∈Region.ready .any uL.toArray U
  .rw [A]at Y;cases Y
  .have xe:n∈Region.ready .any uL.toArray U:=by
    rw[CV (by rw[q,p]) z]at Y;rw[CV (by rw[q,p]) xg,<-xo];rcases xp i o R S z with h | h
    .exact absurd ⟨xr.1,by rw[<-h];exact xr.2⟩ Y
    .refine ⟨?_,λk C=>xr.2 k (h k C)⟩
     cases d:U.getD n false with
     |false=>rfl
     |true=>
      refine absurd ⟨xr.1,λk C=>?_⟩ Y;rcases xs with rfl | rfl
      .exact xr.2 k C
      .rcases Ri C with C | rfl
       .exact xr.2 k C
       .exact d
   rw[A]at xe;cases xe
 |succ f l=>
  intro U a w q xa h;by_cases xm:n∈Region.ready .any vf.toArray U
  .have xA:=(CV q M).1 xm
   have xG:n∈Region.ready .any uL.toArray U:=(CV (by rw[q,p]) xg).2 ⟨xA.1,by rw[<-xo];exact xA.2⟩;have A:=h.2 n xG;obtain⟨xv,xh,xs⟩:=H.at n oe M;obtain rfl:xv=xu:=Option.some.inj (xh.symm.trans xg);have xt:execOp a.eval xv=execOp a.eval oe:=by rcases xs with rfl | rfl<;>rfl
   have e:xv.guard=none:=by rcases xs with rfl | rfl<;>exact xf
   have xl:xv.dst=oe.dst:=by rcases xs with rfl | rfl<;>rfl
   unfold wpOp at A;rw[show uL.toArray[n]? = some xv by simpa using xg]at A;simp only[Region.wanted,e,if_true]at A;have A:xv.wp P a w (wpAny P .any uL.toArray Q f (U.setIfInBounds n true)) Q:=A.elim id λh=>absurd h.2 xn;rcases Uf (P:=P) (a:=a) X with⟨v,W⟩ | xi
   .have B:wpAny P .any uL.toArray Q f (U.setIfInBounds n true) (a.put oe.dst v) w:=by
     unfold Oper.wp at A;rw[xt,W w,Oper.upon_value,xl]at A;exact A
    refine wpAny_first (v:=v) (show vf.toArray[n]? = some oe by simpa using M) xk (λc a w h=>absurd h (hQ c _ w)) f U a w (λj T O s xb xi=>?_) xm (.inl ⟨by simp[Region.wanted,xf],W⟩) (l _ _ _ (by simpa using q) (λj o S L k C=>?_) B)
    .have O:vf[j]? = some T:=by simpa using O
     rcases xD j T O with h | h | h | h
     .exact absurd h s
     .obtain ⟨x,E,xw,xH⟩:=Ih h
      exact absurd xH (xi x E xw)
     .have:=xA.2 j h
      have G:j<U.size:=by rw[q];exact(List.getElem?_eq_some_iff.1 O).1
      simp[G]at this xb;rw[this]at xb;cases xb
     .exact h
    .by_cases xz:j=n
     .subst xz
      obtain rfl:o=oe:=Option.some.inj (S.symm.trans M);exact getD_set_true (xA.2 k C)
     .rw [getD_set_ne false (λh=>xz h.symm)]at L
      exact getD_set_true (xa j o S L k C)
   .exfalso
    refine xi (wpAny P .any uL.toArray Q f (U.setIfInBounds n true)) Q w ?_;unfold Oper.wp at A ⊢;rw[xt]at A
    have:∀(r:Result Next),xv.upon P a (wpAny P .any uL.toArray Q f (U.setIfInBounds n true)) Q r=oe.upon P a (wpAny P .any uL.toArray Q f (U.setIfInBounds n true)) Q r:=λr=>by
     rcases xs with rfl | rfl<;>rfl
    rwa [this]at A
  .have xC:∀i,i∈Region.ready .any vf.toArray U↔i∈Region.ready .any uL.toArray U:=λi=>by
    by_cases xd:i<vf.length
    .have S:vf[i]? = some vf[i]:=List.getElem?_eq_getElem xd
     obtain⟨R,z,xs⟩:=H.at i _ S;rw[CV q S,CV (by rw[q,p]) z];refine and_congr_right λxb=>⟨λh k C=>?_,λh k C=>?_⟩
     .rcases xp i _ R S z with g | g
      .exact h k (by rw[g];exact C)
      .rcases xs with rfl | rfl
       .exact h k C
       .rcases Ri C with C | rfl
        .exact h k C
        .cases d:U.getD k false with
         |true=>rfl
         |false=>exact absurd ((CV q M).2 ⟨d,λj O=>h j (g j O)⟩) xm
     .rcases xs with rfl | rfl
      .exact h k C
      .exact h k (Zh C)
    .constructor
     .intro h
      obtain⟨_,o,S,_⟩:=mem_ready.1 h;have:=(Array.getElem?_eq_some_iff.1 S).1;simp at this;exact absurd this xd
     .intro h
      obtain⟨_,o,S,_⟩:=mem_ready.1 h;have:=(Array.getElem?_eq_some_iff.1 S).1;simp at this;exact absurd Zbx xd
   refine⟨λN=>h.1 (List.eq_nil_iff_forall_not_mem.2 λi K=>?_),λi K=>?_⟩
   .have:=(xC i).2 K
    rw[N]at this;cases this
   .have A:=h.2 i ((xC i).1 K)
    obtain⟨_,o,S,_⟩:=mem_ready.1 K;have S:vf[i]? = some o:=by simpa using S
    obtain⟨R,z,xs⟩:=H.at i o S;have xr:=(CV q S).1 K
    have xB:∀t,yielded uL.toArray t=yielded vf.toArray t:=λt=>by
     funext j;unfold yielded;simp only[List.getElem?_toArray]
     cases O:vf[j]? with
     |none=>
      have:uL[j]? = none:=by rw[List.getElem?_eq_none_iff]at O ⊢;omega
      rw[this]
     |some T=>
      obtain⟨xI,xx,xy⟩:=H.at j T O;rw[xx];rcases xy with rfl | rfl<;>rfl
    have xF:∀j o,vf[j]? = some o->(U.setIfInBounds i true).getD j false=true->∀k∈Bp o,(U.setIfInBounds i true).getD k false=true:=λj T J L k C=>by
     by_cases xc:j=i
     .subst xc
      obtain rfl:T=o:=Option.some.inj (J.symm.trans S);exact getD_set_true (xr.2 k C)
     .rw [getD_set_ne false (λh=>xc h.symm)]at L
      exact getD_set_true (xa j T J L k C)
    refine wpOp_mono (λa w h=>l _ a w (by simpa using q) xF h) ?_;unfold wpOp at A ⊢;rw[show uL.toArray[i]? = some R by simpa using z]at A;rw[show vf.toArray[i]? = some o by simpa using S];rw[xB]at A;rcases xs with rfl | rfl
    .exact A
    .exact A
structure OnlyN(Q:Exit->AS->Prop)(e:Exit)(σ:AS):Prop where
 how:e=.normal
 run:Q .normal σ
theorem OnlyN.mk'(h:vl .normal vc):OnlyN vl .normal vc:=⟨rfl,h⟩
theorem Ta{s0:An}{e:Nat}(s:P.follows .mixedOrders=true)(B:AddE e vf uL)(E:VM e vf uL=true):DrawOk P s0 n b vf.toArray uL vl (OnlyN vl):=⟨λa w h=>by
 have C:∀j,(Array.replicate vf.toArray.size false).getD j false=false:=λj=>by
  rcases Nat.lt_or_ge j vf.length with h | h
  .simp [h]
  .simp [h]
 have A:uL.toArray.size=vf.toArray.size:=by simp[B.length]
 rw[A]at h;have F:∀c a w,¬FG s0 n (OnlyN vl) (.panic c) a w:=λc a w ⟨f,h,_⟩=>by have:=h.how;cases this
 have L:¬LetsOut (FG s0 n (OnlyN vl)):=λ⟨a,w,f,h,_⟩=>by have:=h.how;cases this
 have u:=Tf B E F L _ _ _ _ ZbK (λj o _ L=>by rw[C]at L;cases L) h
 exact wp_mono (wp_region_any s u) λex Q O ⟨f,h,A⟩=>by
  obtain⟨rfl,h⟩:=h;exact⟨f,h,A⟩⟩
section
variable {P:Program} {hp:List Ow} {arg:Operand->AV} {dd:Option Tmp} {ty:TypeId} {ps:String} {af:Array Edge} {gd:Option (Nat×Bool)}
theorem CS(C:arg x=g:=by first | exact ao rfl | exact ah rfl):Quiet P hp ⟨dd,.move x,ty,ps,af,gd⟩ arg g:=Bb C
theorem A5n(C:arg x=g:=by first | exact ao rfl | exact ah rfl):Quiet P hp ⟨dd,.assign x,ty,ps,af,gd⟩ arg g:=Dh C
theorem Bg{n b T id off:Nat}{R r:List D}(C:arg x=.ptr id off:=by first | exact ao rfl | exact ah rfl)(i:hp[id]? = some (.var T (R.map .d)):=by exact rfl)(M:Tab P t d n b z:=by exact(Aa rfl))(W:DS d=true:=by exact rfl)(Y:A0i off n R=some r:=by exact rfl):Quiet P hp ⟨dd,.load t x,ty,ps,af,gd⟩ arg (.d (AL r)):=Mx C i M W Y
theorem AM{n b T id off:Nat}(C:arg x=.ptr id off:=by first | exact ao rfl | exact ah rfl)(i:hp[id]? = some (.var T (c.map .d)):=by exact rfl)(M:Tab P t d n b z:=by exact(Aa rfl))(W:DS d=false:=by exact rfl)(Y:atO off c=some r:=by exact rfl):Quiet P hp ⟨dd,.load t x,ty,ps,af,gd⟩ arg (.d r):=GF C i M W Y
theorem BN{n b T id off:Nat}{r:AV}(C:arg x=.ptr id off:=by first | exact ao rfl | exact ah rfl)(i:hp[id]? = some (.var T o):=by exact rfl)(M:Tab P t d n b z:=by exact(Aa rfl))(W:DS d=false:=by exact rfl)(G:o[off]? = some r:=by exact rfl):Quiet P hp ⟨dd,.load t x,ty,ps,af,gd⟩ arg r:=Io C i M W G
theorem BO{ds:List D}(C:arg x=.d (Et T ds):=by first | exact ao rfl | exact ah rfl)(M:Tab P t d n b z:=by exact(Aa rfl))(W:DS d=true:=by exact rfl)(h:ds.length=n:=by exact rfl):Quiet P hp ⟨dd,.load t x,ty,ps,af,gd⟩ arg (.d (AL ds)):=JZ C M W h
theorem Wt{R r:List D}(C:arg x=.d (Et T R):=by first | exact ao rfl | exact ah rfl)(M:Tab P t d n b z:=by exact(Aa rfl))(W:DS d=true:=by exact rfl)(Y:MK n R=some r:=by exact rfl):Quiet P hp ⟨dd,.load t x,ty,ps,af,gd⟩ arg (.d (AL r)):=PO C M W Y
theorem Az{ds:List D}(C:arg x=.d (Et T ds):=by first | exact ao rfl | exact ah rfl)(M:Tab P t d n b z:=by exact(Aa rfl))(W:DS d=false:=by exact rfl)(Y:atO 0 ds=some r:=by exact rfl):Quiet P hp ⟨dd,.load t x,ty,ps,af,gd⟩ arg (.d r):=FU C M W Y
theorem Aw{f n b e u T:Nat}{ds r:List D}(C:arg x=.d (Et T ds):=by first | exact ao rfl | exact ah rfl)(l:Tab P t (.struct vI) n b z:=by exact(Aa rfl))(p:vI[f]? = some vP:=by exact rfl)(a:Tab P vP.type d e u v:=by exact(Aa rfl))(h:Nat.beq e 0=false:=by exact rfl)(Y:Nb vP.offset ds=some r:=by exact rfl):Quiet P hp ⟨dd,.fieldAddr t x f,ty,ps,af,gd⟩ arg (.d (Et T r)):=NN C l p a h Y
theorem AH{f n b e u id off:Nat}(C:arg x=.ptr id off:=by first | exact ao rfl | exact ah rfl)(l:Tab P t (.struct vI) n b z:=by exact(Aa rfl))(p:vI[f]? = some vP:=by exact rfl)(a:Tab P vP.type d e u v:=by exact(Aa rfl))(h:Nat.beq e 0=false:=by exact rfl):Quiet P hp ⟨dd,.fieldAddr t x f,ty,ps,af,gd⟩ arg (.ptr id (off+vP.offset)):=GG C l p a h
theorem ZI{e n b A B T q:Nat}{a:j}(C:II hp (arg x)=some (slD T q ((a::vE).map vY)):=by exact rfl)(N:arg y=.d (ex (.int i 0)):=by first | exact ao rfl | exact ah rfl)(M:Tab P t (.slice e) n b z:=by exact(Aa rfl))(u:Tab P e d A B v:=by exact(Aa rfl))(w:A=q:=by exact rfl):Quiet P hp ⟨dd,.indexAddr t x y,ty,ps,af,gd⟩ arg (.d (Et T (vY a))):=Kc C N M u w
theorem EK[Inhabited j](C:II hp (arg x)=some (slD k va (vE.map vY)):=by exact rfl)(N:arg y=.d (ex (.int i (vo:Nat))):=by first | exact ao rfl | exact ah rfl)(M:Tab P t (.slice n) b T z:=by exact(Aa rfl))(a:Tab P n d m e v:=by exact(Aa rfl))(w:m=va:=by exact rfl)(B:vo<vE.length:=by first | omega | (simp;omega)):Quiet P hp ⟨dd,.indexAddr t x y,ty,ps,af,gd⟩ arg (.d (Et k (vY (vE.getD vo default)))):=Ch C N M a w B
theorem PJ(C:arg x=.ptr va vo:=by first | exact ao rfl | exact ah rfl)(N:arg y=.d (ex (.int i ((uk:Nat):Int))):=by first | exact ao rfl | exact ah rfl)(M:Tab P t (.array k n) b T z:=by exact(Aa rfl))(a:Tab P n d m e v:=by exact(Aa rfl))(B:uk<k:=by first | omega | (simp;omega)):Quiet P hp ⟨dd,.indexAddr t x y,ty,ps,af,gd⟩ arg (.ptr va (vo+uk*m)):=KK C N M a B
theorem A4T{e n b u A len T k:Nat}(C:arg x=.d (Et T c):=by first | exact ao rfl | exact ah rfl)(N:arg y=.d (ex (.int i ((k:Nat):Int))):=by first | exact ao rfl | exact ah rfl)(M:Tab P t (.array len e) n b z:=by exact(Aa rfl))(a:Tab P e d u A v:=by exact(Aa rfl))(B:k<len:=by first | omega | (simp;omega)):Quiet P hp ⟨dd,.indexAddr t x y,ty,ps,af,gd⟩ arg (.d (Et T (c.drop (k*u)))):=JB C N M a B
theorem Dg{e n b T q:Nat}(C:II hp (arg x)=some (slD T q (vE.map vY)):=by exact rfl)(M:Tab P t (.slice e) n b z:=by exact(Aa rfl)):Quiet P hp ⟨dd,.call { callee:=.builtin .len,args:=#[x],argTypes:=#[t] },ty,ps,af,gd⟩ arg (.d (ex (.int .i64 (vE.length:Nat)))):=Bh C M
theorem NK{e n b:Nat}(C:arg x=.d (wD l):=by first | exact ao rfl | exact ah rfl)(M:Tab P t (.slice e) n b z:=by exact(Aa rfl)):Quiet P hp ⟨dd,.call { callee:=.builtin .len,args:=#[x],argTypes:=#[t] },ty,ps,af,gd⟩ arg (.d (ex (.int .i64 (l.length:Nat)))):=NM C M
theorem Eb(C:arg x=.d (ex (.int .i64 (n:Nat))):=by first | exact ao rfl | exact ah rfl)(N:arg y=.d (ex (.int .i64 1)):=by first | exact ao rfl | exact ah rfl)(u:(n:Int)<9223372036854775807:=by omega):Quiet P hp ⟨dd,.binOp .add t x y U,ty,ps,af,gd⟩ arg (.d (ex (.int .i64 ((n+1:Nat):Int)))):=JV C N u
theorem Wu(C:arg x=.d (ex (.int .i64 a)):=by first | exact ao rfl | exact ah rfl)(N:arg y=.d (ex (.int .i64 J)):=by first | exact ao rfl | exact ah rfl)(u:-9223372036854775808<=a+J:=by omega)(A:a+J<=9223372036854775807:=by omega):Quiet P hp ⟨dd,.binOp .add t x y U,ty,ps,af,gd⟩ arg (.d (ex (.int .i64 (a+J)))):=MC C N u A
theorem A4S(C:arg x=.d (ex (.int .i64 a)):=by first | exact ao rfl | exact ah rfl)(N:arg y=.d (ex (.int .i64 J)):=by first | exact ao rfl | exact ah rfl)(u:-9223372036854775808<=a-J:=by omega)(A:a-J<=9223372036854775807:=by omega):Quiet P hp ⟨dd,.binOp .sub t x y U,ty,ps,af,gd⟩ arg (.d (ex (.int .i64 (a-J)))):=Mu C N u A
theorem A1B(C:arg x=.d (ex (.int i a)):=by first | exact ao rfl | exact ah rfl)(N:arg y=.d (ex (.int i J)):=by first | exact ao rfl | exact ah rfl)(g:0<=a:=by omega)(E:0<J:=by omega):Quiet P hp ⟨dd,.binOp .rem t x y U,ty,ps,af,gd⟩ arg (.d (ex (.int i (a%J)))):=PM C N g E
theorem AZ{k:IntKind}(E:QX vT=true:=by exact rfl)(C:arg x=.d (ex (.int k a)):=by first | exact ao rfl | exact ah rfl)(N:arg y=.d (ex (.int k J)):=by first | exact ao rfl | exact ah rfl)(G:Cq vT a J:=by first | (simp only[Cq,List.length_cons,List.length_nil];omega) | (simp[Cq];done) | (simp[Cq];omega)):Quiet P hp ⟨dd,.binOp vT t x y U,ty,ps,af,gd⟩ arg (.d (ex (.bool true))):=Fp E C N G
theorem AR{k:IntKind}(E:QX vT=true:=by exact rfl)(C:arg x=.d (ex (.int k a)):=by first | exact ao rfl | exact ah rfl)(N:arg y=.d (ex (.int k J)):=by first | exact ao rfl | exact ah rfl)(G:¬Cq vT a J:=by first | (simp only[Cq,List.length_cons,List.length_nil];omega) | (simp[Cq];done) | (simp[Cq];omega)):Quiet P hp ⟨dd,.binOp vT t x y U,ty,ps,af,gd⟩ arg (.d (ex (.bool false))):=GH E C N G
theorem BP{k:IntKind}{a b:Int}(C:arg x=.d (ex (.int k a)):=by first | exact ao rfl | exact ah rfl)(N:arg y=.d (ex (.int k b)):=by first | exact ao rfl | exact ah rfl)(G:Up vT a b=some p:=by exact rfl):Quiet P hp ⟨dd,.binOp vT t x y U,ty,ps,af,gd⟩ arg (.d (ex (.bool p))):=SU C N G
theorem ZH(C:arg x=.d (ex (.bool p)):=by first | exact ao rfl | exact ah rfl)(N:arg y=.d (ex (.bool ul)):=by first | exact ao rfl | exact ah rfl)(g:P.underlying t=some .bool:=by kernel_rfl):Quiet P hp ⟨dd,.binOp .neq t x y U,ty,ps,af,gd⟩ arg (.d (ex (.bool (!(p==ul))))):=JY C N g
theorem Jy(C:arg x=.d (ex (.bool p)):=by first | exact ao rfl | exact ah rfl):Quiet P hp ⟨dd,.unOp .not t x,ty,ps,af,gd⟩ arg (.d (ex (.bool (!p)))):=SQ C
theorem Wp(C:arg x=.d (ex (.int .i64 a)):=by first | exact ao rfl | exact ah rfl)(u:-9223372036854775807<=a:=by omega)(A:a<=9223372036854775807:=by omega):Quiet P hp ⟨dd,.unOp .neg t x,ty,ps,af,gd⟩ arg (.d (ex (.int .i64 (-a)))):=PN C u A
theorem EC(C:arg y=g:=by first | exact ao rfl | exact ah rfl)(G:arg x=.d (ex (.bool true)):=by first | exact ao rfl | exact ah rfl):Quiet P hp ⟨dd,.pick x y vX,ty,ps,af,gd⟩ arg g:=Gj C G
theorem CE(N:arg vX=g:=by first | exact ao rfl | exact ah rfl)(G:arg x=.d (ex (.bool false)):=by first | exact ao rfl | exact ah rfl):Quiet P hp ⟨dd,.pick x y vX,ty,ps,af,gd⟩ arg g:=In N G
theorem BC{ds:List D}(G:Abs P vb ds r)(p:arg x=.d (ex (.func (.func vb) #[] #[])):=by first | exact ao rfl | exact ah rfl)(t:ArgsLe hp arg vJ ds:=by repeat (first | exact ArgsLe.nil | refine ArgsLe.cons rfl (D.le.refl _) ?_ | refine ArgsLe.cons rfl Bd ?_)):Quiet P hp ⟨dd,.call { callee:=.value x,args:=vJ.toArray,argTypes:=vs },ty,ps,af,gd⟩ arg (.d r):=EL p G t
end
section
variable {P:Program} {s0:An} {n:Nat} {ops:Array Oper} {Q:Exit->AS->Prop} {rest:List Oper} {fr:List (Nat×AV)} {hp:List Ow} {ty:TypeId} {ps:String} {af:Array Edge} {d:Nat} {op:Op} {r:AV}
theorem Wq(z:Quiet P hp ⟨some d,op,ty,ps,af,none⟩ (AS.arg ⟨fr,hp⟩) r)(h:AWl P s0 n ops Q rest ⟨(d,r)::fr,hp⟩)(b:Bz op=true:=by exact rfl)(W:Nat.blt d n=true:=by exact rfl):AWl P s0 n ops Q (⟨some d,op,ty,ps,af,none⟩::rest) ⟨fr,hp⟩:=CA b W ⟨r,z,h⟩
theorem Wg{j:Nat}(z:Quiet P hp ⟨some d,op,ty,ps,af,some (j,p)⟩ (AS.arg ⟨fr,hp⟩) r)(h:AWl P s0 n ops Q rest ⟨(d,r)::fr,hp⟩)(N:(ops[j]?).bind (·.dst)=some b:=by exact rfl)(L:BR fr b=some (.d (ex (.bool p))):=by exact rfl)(y:Nat.blt b n=true:=by exact rfl)(u:Bz op=true:=by exact rfl)(W:Nat.blt d n=true:=by exact rfl):AWl P s0 n ops Q (⟨some d,op,ty,ps,af,some (j,p)⟩::rest) ⟨fr,hp⟩:=MF N L y u W ⟨r,z,h⟩
theorem Ws{j:Nat}(h:AWl P s0 n ops Q rest ⟨(d,.d (ex undef))::fr,hp⟩)(N:(ops[j]?).bind (·.dst)=some b:=by exact rfl)(L:BR fr b=some (.d (ex z)):=by exact rfl)(B:isB z p=false:=by exact rfl)(y:Nat.blt b n=true:=by exact rfl)(W:Nat.blt d n=true:=by exact rfl):AWl P s0 n ops Q (⟨some d,op,ty,ps,af,some (j,p)⟩::rest) ⟨fr,hp⟩:=Qa N L B y W h
end
section
variable {P:Program} {σ:AS} {K:List HR->Prop} {acc acc':List HR} {o:Oper} {L:List Oper} {e:List (Nat×Nat)} {es:List (List (Nat×Nat))} {r:AV}
theorem Xq(z:Quiet P σ.hp o (Eo σ acc e) r)(h:HS P σ K acc' L es)(G:o.guard=none:=by exact rfl)(t:QJ acc (.av r)=some acc':=by exact rfl):HS P σ K acc (o::L) (e::es):=⟨_,HStep.q G z,_,t,h⟩
theorem Xg(z:Quiet P σ.hp o (Eo σ acc e) r)(h:HS P σ K acc' L es)(G:o.guard=some (n,p):=by exact rfl)(i:acc[n]? = some (.av (.d (ex (.bool p)))):=by exact rfl)(t:QJ acc (.av r)=some acc':=by exact rfl):HS P σ K acc (o::L) (e::es):=⟨_,AN G i z,_,t,h⟩
theorem HqG{R:HR->Prop}(G:o.guard=some (n,p))(i:acc[n]? = some (.av (.d (ex (.bool p)))))(h:∃r,Quiet P σ.hp o (Eo σ acc e) r/\R (.av r)):∃r,HStep P σ acc e o r/\R r:=let⟨r,u,A⟩:=h;⟨_,AN G i u,A⟩
end
end Go.Proofs.YtcikkglcoeedlaaGreat
set_option linter.unusedSimpArgs false
set_option linter.unusedVariables false
namespace Go.Proofs.YtcikkglcoeedlaaGreat
open Go.RowKit
section
variable {P:Program} {s0:An} {n:Nat} {ops:Array Oper} {Q:Exit->AS->Prop} {σ:AS}
variable{uq:AS->Prop}
theorem Yn(h:uq σ):AThen uq Q .normal σ:=IS h
theorem Y0(h:uq σ):AWl P s0 n ops (AThen uq Q) [] σ:=AWl.nil (IS h)
variable{vn:Code}
theorem Y1{i:Nat}{l:List Oper}(h:AWl P s0 n l.toArray (AThen (AWp P s0 n vn Q) Q) l σ):AWp P s0 n (.seq (.region i l.toArray false) vn) Q σ:=Aj (AWp.region h)
theorem Ys(h:uq σ):AWp P s0 n .skip (AThen uq Q) σ:=Gm (IS h)
end
variable{vc:AS}{g:AV}{r:D}{vK:Func}{n:Nat}{P:Program}
theorem Yf(Y:vK.results=#[.tmp n]:=by exact rfl)(h:BR vc.fr n=some g:=by exact rfl)(C:II vc.hp g=some r:=by exact rfl):Fin P vK r .ret vc:=Aq (by rw[Y];exact Ak (ResV.tmp h C) (D.le.refl _))
variable{vb:FuncId}
theorem Ab {c : Code} {ds : List D} (p : P.funcs[vb]? = some vK) (h : ∀ C, AWp P C vK.ntmps c (Fin P vK r) ⟨params 0 ds, []⟩) (E : vK.body = some c := by exact rfl) (u : (vK.name == "runtime.NumGoroutine") = false := by kernel_rfl) (A : vK.body.isNone = false := by kernel_rfl) (B : Nat.ble ds.length vK.ntmps = true := by exact rfl) : Abs P vb ds r := Abs.intro p E (Ag p u A) B h
section
variable {P:Program} {s0:An} {n:Nat} {ops:Array Oper} {Q:Exit->AS->Prop} {fr:List (Nat×AV)} {hp hp':List Ow} {rest:List Oper} {ty:TypeId} {ps:String} {af:Array Edge} {d:Nat} {x:Operand} {r:AV}
theorem Wm(h:AWl P s0 n ops Q rest ⟨(d,r)::fr,hp⟩)(C:AS.arg ⟨fr,hp⟩ x=r:=by exact ao rfl)(W:Nat.blt d n=true:=by exact rfl):AWl P s0 n ops Q (⟨some d,.move x,ty,ps,af,none⟩::rest) ⟨fr,hp⟩:=Wq (Bb C) h rfl W
theorem Wa(h:AWl P s0 n ops Q rest ⟨(d,r)::fr,hp⟩)(C:AS.arg ⟨fr,hp⟩ x=r:=by exact ao rfl)(W:Nat.blt d n=true:=by exact rfl):AWl P s0 n ops Q (⟨some d,.assign x,ty,ps,af,none⟩::rest) ⟨fr,hp⟩:=Wq (Dh C) h rfl W
variable{vn ua:Code}
theorem Ct(h:AWp P s0 n vn Q ⟨fr,hp⟩)(C:AS.arg ⟨fr,hp⟩ x=.d (ex (.bool true)):=by exact ao rfl):AWp P s0 n (.cond x vn ua) Q ⟨fr,hp⟩:=MH C h
theorem Cf(h:AWp P s0 n ua Q ⟨fr,hp⟩)(C:AS.arg ⟨fr,hp⟩ x=.d (ex (.bool false)):=by exact ao rfl):AWp P s0 n (.cond x vn ua) Q ⟨fr,hp⟩:=MI C h
variable{o:List AV}{z:Value}
theorem Sf{T e:TypeId}{t:TypeDesc}{b id m:Nat}{y:Operand}{ds:List D}(h:AWl Tryz.prog s0 n ops Q rest ⟨fr,hp'⟩)(C:AS.arg ⟨fr,hp⟩ x=.ptr id 0:=by exact ao rfl)(N:AS.arg ⟨fr,hp⟩ y=.d (AL ds):=by exact ao rfl)(i:hp[id]? = some (.var e o):=by exact rfl)(M:Tab Tryz.prog T t m b z:=by exact Aa rfl)(s:ds.length=m:=by exact rfl)(Z:o.length=m:=by exact rfl)(u:Fu hp id (.var e (ds.map .d))=some hp':=by exact rfl):AWl Tryz.prog s0 n ops Q (⟨none,.store T x y,ty,ps,af,none⟩::rest) ⟨fr,hp⟩:=A3s C N i M s Z u h
variable{c:List D}{d:TypeDesc}{t:TypeId}
theorem Al{m b k A:Nat}(h:AWl Tryz.prog s0 n ops Q rest ⟨(A,.ptr k 0)::fr,hp'⟩)(M:Tab Tryz.prog t d m b z:=by exact Aa rfl)(g:Nat.beq t 335=false:=by exact rfl)(u:Hp z.cells.toList=true:=by exact rfl)(W:Nat.blt A n=true:=by exact rfl)(G:exO z.cells.toList=some c:=by exact rfl)(B:GW hp=some k:=by exact rfl)(C:Fk hp (.var t (c.map .d))=some hp':=by exact rfl):AWl Tryz.prog s0 n ops Q (⟨some A,.alloc t,ty,ps,af,none⟩::rest) ⟨fr,hp⟩:=A5d M g u W G B C h
theorem Bx{ds:List D}{k u:Nat}(h:AWl P s0 n ops Q rest ⟨(u,.ptr k 0)::fr,hp'⟩)(C:AS.arg ⟨fr,hp⟩ x=.d (AL ds):=by exact ao rfl)(g:Nat.beq t 335=false:=by exact rfl)(W:Nat.blt u n=true:=by exact rfl)(B:GW hp=some k:=by exact rfl)(b:Fk hp (.var t (ds.map .d))=some hp':=by exact rfl):AWl P s0 n ops Q (⟨some u,.box t x,ty,ps,af,none⟩::rest) ⟨fr,hp⟩:=A5c C g W B b h
variable{vp up:List (List D)}{vd:List (Nat×AV)}{x y:Operand}{v:Value}
theorem Ap{t T S q bytes id m b e:Nat}(h:AWl Tryz.prog s0 n ops Q rest ⟨(e,.own id)::vd,hp'⟩)(C:AS.arg ⟨fr,hp⟩ x=.own id:=by exact ao rfl)(N:II hp (AS.arg ⟨fr,hp⟩ y)=some (slD S q up):=by exact rfl)(i:hp[id]? = some (.row T q vp):=by exact rfl)(M:Tab Tryz.prog t (.slice T) m b v:=by exact Aa rfl)(g:Tab Tryz.prog T d q bytes z:=by exact Aa rfl)(F:z.cells.size=q:=by exact rfl)(W:Nat.blt e n=true:=by exact rfl)(A:(vp.length+up.length)*bytes<=140737488355328:=by simp;omega)(B:vp.length+up.length<=4611686018427387904:=by simp;omega)(p:Ii id (slD T q vp) fr=some vd:=by exact rfl)(E:PlainHp id hp:=by repeat (first | exact PlainHp.nil | refine PlainHp.var ?_ | refine PlainHp.row ?_ | refine PlainHp.dead ?_ | refine PlainHp.obj ?_ | refine PlainHp.pin rfl ?_ | refine PlainHp.varA rfl ?_))(u:Fu hp id (.row T q (vp++up))=some hp':=by exact rfl):AWl Tryz.prog s0 n ops Q (⟨some e,.call { callee:=.builtin .append,args:=#[x,y],argTypes:=#[t,t] },ty,ps,af,none⟩::rest) ⟨fr,hp⟩:=DP C N i M g F W A B p E u h
end
section
variable {hp:List Ow} {m T z:Nat} {l l':List Ow}
theorem Yr{r:List (List D)}(h:HpLe hp m l l'):HpLe hp m (.row T z r::l) (.row T z r::l'):=HpLe.cons (OwLe.row rfl) h
variable{c:List D}
theorem Yv(h:HpLe hp m l l'):HpLe hp m (.var T (c.map .d)::l) (.var T (c.map .d)::l'):=HpLe.cons (OwLe.varD rfl) h
theorem Yd{x:D}{f r:List (Nat×AV)}(h:FrLe hp m f r)(B:BR f n=some (.d x):=by exact rfl):FrLe hp m f ((n,.d x)::r):=FrLe.cons B (AVle.d rfl) h
theorem Yp{t i o:Nat}{f r:List (Nat×AV)}(h:FrLe hp m f r)(B:BR f t=some (.ptr i o):=by exact rfl)(K:Nat.blt i m=true:=by exact rfl):FrLe hp m f ((t,.ptr i o)::r):=FrLe.cons B (AVle.ptr K) h
end
variable{H:List Ow}
theorem Po(h:II H g=some r)(u:One H g:=by first | exact EV rfl | exact Fq | exact One.ep):PartOk H g [r]:=PartOk.one h u
def A4P:List Oper->List (List Nat)->Nat->List (List Nat)
 |[],Z,_=>Z
 |o::l,Z,i=>A4P l (Z++[(List.range i).filter λj=>(Bp o).any λe=>Nat.beq e j||(Z.getD e []).any (Nat.beq j)]) (i+1)
def A4z(t:Nat):List Oper->Nat->Option Nat
 |[],_=>none
 |o::l,i=>match o.dst with
  |some d=>bif Nat.beq d t then some i else A4z t l (i+1)
  |none=>A4z t l (i+1)
def A2W(L:List Oper):List Operand->List (Nat×Nat)
 |[]=>[]
 |.tmp t::l=>match A4z t L 0 with
  |some i=>(t,i)::A2W L l
  |none=>A2W L l
 |_::l=>A2W L l
def Ug(L:List Oper):List Oper->List (List (Nat×Nat))
 |[]=>[]
 |o::l=>A2W L o.op.operands.toList::Ug L l
variable{vf:List Oper}
theorem Dy {s0 : An} {Q : Exit → AS → Prop} {S : List (Nat × AV)} {id : Nat} (m : Nat) (h : HS P ⟨S, H⟩ (fun A => ∃ k, SE S H m vf A = some k ∧ AWl P s0 n vf.toArray Q (vf.drop m) k) [] vf (Ug (vf.take m) (vf.take m))) (s : P.follows .mixedOrders = true := by kernel_rfl) (L : (Ug (vf.take m) (vf.take m)).length = m := by kernel_rfl) (o : ((Ug (vf.take m) (vf.take m)).length == (A4P (vf.take m) [] 0).length && Nat.ble (Ug (vf.take m) (vf.take m)).length vf.length) = true := by kernel_rfl) (T : Dp vf (EO 0 (Ug (vf.take m) (vf.take m)) (A4P (vf.take m) [] 0)) = true := by kernel_rfl) (W : Gd vf m n = true := by kernel_rfl) (u : Lj 0 vf (Ug (vf.take m) (vf.take m)) = true := by kernel_rfl) : AWp P s0 n (.region id vf.toArray true) Q ⟨S, H⟩ :=
 Yh (UT s) (Ug (vf.take m) (vf.take m)) _ o T (by rw[L];exact W) u (by rw[L];exact h)
variable{uL:List Oper}
theorem K4{e:Nat}{a b c d:Oper}(h:AddE e vf uL):AddE e (a::b::c::d::vf) (a::b::c::d::uL):=.keep (.keep (.keep (.keep h)))
def Ya(F:List Ow)(arg:Operand->AV):List Operand->Option (List D)
 |[]=>some []
 |x::l=>match II F (arg x),Ya F arg l with
  |some d,some R=>some (d::R)
  |_,_=>none
theorem Uy{F:List Ow}{arg:Operand->AV}:∀{l:List Operand} {R:List D},Ya F arg l=some R->ArgsLe F arg l R
 |[],R,h=>by cases h;exact ArgsLe.nil
 |x::l,R,h=>by
  unfold Ya at h;split at h
  .rename_i d a u A
   cases h;exact ArgsLe.cons u (D.le.refl _) (Uy A)
  .cases h
section
variable {P:Program} {hp:List Ow} {arg:Operand->AV} {dd:Option Tmp} {ty:TypeId} {ps:String} {af:Array Edge} {gd:Option (Nat×Bool)}
variable{vs:Array TypeId}{c:List D}{vJ:List Operand}{x:Operand}
theorem PP(p:arg x=.d (ex (.func (.func vb) #[] #[])))(W:Ya hp arg vJ=some c)(G:Abs P vb c r):Quiet P hp ⟨dd,.call { callee:=.value x,args:=vJ.toArray,argTypes:=vs },ty,ps,af,gd⟩ arg (.d r):=EL p G (Uy W)
end
structure HQ(q:Prop):Prop where
 a:q
theorem GoQ{p q:Prop}(k:q)(h:HQ q->p:=by intro z;(first | (apply EW;refine⟨_,Bb (ao rfl),?_⟩) | (apply Fg;refine⟨_,Dh (ao rfl),?_⟩) | (apply NQ;first | refine⟨_,Mx (ao rfl) rfl (Aa rfl) rfl rfl,?_⟩ | refine⟨_,GF (ao rfl) rfl (Aa rfl) rfl rfl,?_⟩ | refine⟨_,Io (ao rfl) rfl (Aa rfl) rfl rfl,?_⟩ | refine⟨_,JZ (ao rfl) (Aa rfl) rfl rfl,?_⟩ | refine⟨_,PO (ao rfl) (Aa rfl) rfl rfl,?_⟩ | refine⟨_,FU (ao rfl) (Aa rfl) rfl rfl,?_⟩ | refine⟨_,Ka (ao rfl) rfl (Aa rfl) rfl (HH ZbI),?_⟩ | refine⟨_,Ip (ao rfl) (Aa rfl) rfl (Gl ZbI),?_⟩) | (apply Gt.index;refine⟨_,Kd (ao rfl) (ao rfl) (Aa rfl) (Aa rfl) rfl ZbI (CellAt.mon ZbI),?_⟩) | (apply GI;first | refine⟨_,NN (ao rfl) (Aa rfl) rfl (Aa rfl) rfl rfl,?_⟩ | refine⟨_,GG (ao rfl) (Aa rfl) rfl (Aa rfl) rfl,?_⟩) | (apply LN;first | refine⟨_,Kc rfl (ao rfl) (Aa rfl) (Aa rfl) rfl,?_⟩ | refine⟨_,Ch rfl (ao rfl) (Aa rfl) (Aa rfl) rfl ZbI,?_⟩ | refine⟨_,FM rfl (ao rfl) (Aa rfl) (Aa rfl) rfl rfl Zbx,?_⟩ | refine⟨_,KK (ao rfl) (ao rfl) (Aa rfl) (Aa rfl) ZbI,?_⟩ | refine⟨_,JB (ao rfl) (ao rfl) (Aa rfl) (Aa rfl) ZbI,?_⟩ | refine⟨_,ST (ao rfl) (ao rfl) (Aa rfl) (Aa rfl) ZbA ZbA rfl,?_⟩ | refine⟨_,SS (ao rfl) (ao rfl) (Aa rfl) (Aa rfl) ZbA ZbA,?_⟩ | refine⟨_,Kb (ao rfl) (ao rfl) (Aa rfl) (Aa rfl) ZbI,?_⟩) | (apply WS;first | refine⟨_,Bh rfl (Aa rfl),?_⟩ | refine⟨_,NM (ao rfl) (Aa rfl),?_⟩ | refine⟨_,WI rfl (Aa rfl),?_⟩) | (apply WT;first | refine⟨_,JV (ao rfl) (ao rfl) Zbx,?_⟩ | refine⟨_,LH (ao rfl) (ao rfl) Zbx,?_⟩ | refine⟨_,MC (ao rfl) (ao rfl) Zbx Zbx,?_⟩) | (apply A1O;first | refine⟨_,LI (ao rfl) (ao rfl) Zbx Zbx,?_⟩ | refine⟨_,Mu (ao rfl) (ao rfl) Zbx Zbx,?_⟩) | (apply A54;refine⟨_,WF (ao rfl) (ao rfl) Zbx Zbx Zbx,?_⟩) | (apply A1P;first | refine⟨_,PM (ao rfl) (ao rfl) Zbx Zbx,?_⟩ | refine⟨_,NL (ao rfl) (ao rfl) ZbA,?_⟩) | (apply A61;refine⟨_,WG (ao rfl) (ao rfl) ZbI ZbI,?_⟩) | (apply Hl;first | refine⟨_,Fp rfl (ao rfl) (ao rfl) ZbF,?_⟩ | refine⟨_,GH rfl (ao rfl) (ao rfl) ZbF,?_⟩ | refine⟨_,SU (ao rfl) (ao rfl) rfl,?_⟩ | refine⟨_,Mz (ao rfl) (ao rfl) Zci,?_⟩ | refine⟨_,MA (ao rfl) (ao rfl) Zci,?_⟩ | refine⟨_,Mv (ao rfl) (ao rfl) Zci,?_⟩ | refine⟨_,Mw (ao rfl) (ao rfl) Zci,?_⟩ | refine⟨_,JC (ao rfl) (ao rfl),?_⟩ | refine⟨_,JA (ao rfl) (ao rfl),?_⟩ | refine⟨_,MB (ao rfl) (ao rfl) Zbz,?_⟩ | refine⟨_,JY (ao rfl) (ao rfl) Zbz,?_⟩) | (apply A60;first | refine⟨_,SQ (ao rfl),?_⟩ | refine⟨_,PN (ao rfl) Zbx Zbx,?_⟩) | (apply A55;refine⟨_,WH (ao rfl) (ao rfl),?_⟩) | (apply A56;refine⟨_,WJ (ao rfl) rfl,?_⟩) | (apply LM;first | refine⟨_,Gj (ao rfl) (ao rfl),?_⟩ | refine⟨_,In (ao rfl) (ao rfl),?_⟩ | refine⟨_,LK (ao rfl) (ao rfl) (ao rfl),?_⟩ | refine⟨_,LJ (ao rfl) (ao rfl) (ao rfl),?_⟩) | (apply ZR;first | refine⟨_,CF (ao rfl) (Aa rfl) (Aa rfl) rfl rfl rfl rfl rfl,?_⟩ | (refine De (Aa rfl) (Aa rfl) rfl rfl rfl rfl rfl ?_;(repeat ((first | refine⟨_,As (ao rfl),?_⟩ | refine⟨_,Po rfl,?_⟩);refine⟨_,rfl,?_⟩));refine⟨_,rfl,?_⟩)) | (apply A3p;first | refine⟨_,FN (ao rfl) (Aa rfl) (Aa rfl) Zbx Zbx,?_⟩ | refine⟨_,NO (ao rfl) (Aa rfl) (Aa rfl),?_⟩) | (apply UR;first | (refine AP (Aa rfl) rfl rfl rfl ?_;(repeat ((first | refine⟨_,As (ao rfl),?_⟩ | refine⟨_,Po rfl,?_⟩);refine⟨_,rfl,?_⟩));refine⟨_,rfl,?_⟩) | (refine ME (Aa rfl) (Aa rfl) rfl rfl ?_;(repeat ((first | refine⟨_,As (ao rfl),?_⟩ | refine⟨_,Po rfl,?_⟩);refine⟨_,rfl,?_⟩));refine⟨_,rfl,?_⟩)) | (apply UQ;first | refine⟨_,PP (ao rfl) rfl Zci,?_⟩ | refine⟨_,EL (ao rfl) Zci ZbL,?_⟩));exact z.a):p:=h ⟨k⟩
theorem Go{p q:Prop}(k:q)(h:HQ q->p:=by intro z;(repeat (first | apply Aj | apply AWp.region | (apply US;refine Al ?_) | (apply PU;first | refine Sf ?_ | refine A3t (ao rfl) (ao rfl) rfl (Aa rfl) rfl rfl rfl ?_ | refine JF (ao rfl) (ao rfl) rfl (Aa rfl) Zcg rfl rfl ?_ | refine JE (ao rfl) (ao rfl) rfl (Aa rfl) Zcg (SetAt.mon ZbI) rfl ?_) | (apply A1X;refine Bx ?_) | (apply A58;first | refine Ap ?_ | refine DP (ao rfl) rfl rfl (Aa rfl) (Aa rfl) rfl rfl (by simp[Ei];omega) (by simp[Ei];omega) rfl ZbB rfl ?_) | (apply A3S;refine Tc (Aa rfl) (Aa rfl) rfl rfl rfl rfl rfl ?_) | (apply A62;refine A3u (ao rfl) (ao rfl) (Aa rfl) (Aa rfl) Zbx Zbx rfl rfl rfl rfl rfl rfl ?_) | (refine CA rfl rfl ?_;refine GoQ ?_) | refine Qa rfl rfl rfl rfl rfl ?_ | (refine MF rfl rfl rfl rfl rfl ?_;refine GoQ ?_) | apply OnlyN.mk' | apply AWl.nil | apply Yn | apply AWp.block | apply Gm | apply Cl | apply BG | apply Di | apply BF | apply BE | apply Dz | apply BJ | apply RE | apply Ca | refine Vb rfl ?_ | (apply IP;first | refine Ct ?_ | refine Cf ?_ | refine HI (ao rfl) (decide_eq_true Zbx) ?_ | refine Gn (ao rfl) (decide_eq_false Zbx) ?_ | refine HI (ao rfl) Zci ?_ | refine Gn (ao rfl) Zci ?_ | refine HI (ao rfl) (by first | (simp;done) | fail) ?_ | refine Gn (ao rfl) (by first | (simp;done) | fail) ?_ | refine HI (ao rfl) ZgC ?_ | refine Gn (ao rfl) ZgC ?_)));exact z.a):p:=h ⟨k⟩
theorem CY{p q:Prop}(k:q)(h:HQ q->p:=by intro z;(repeat (first | refine⟨_,rfl,?_⟩ | (apply A1U;refine⟨_,HStep.n rfl (Aa rfl) rfl ZbA rfl,?_⟩;refine⟨_,rfl,?_⟩) | (apply SW;(refine Xq (Bb (ah rfl)) ?_)) | (apply RB;(refine Xq (Dh (ah rfl)) ?_)) | (apply SX;first | (refine Xq (Mx (ah rfl) rfl (Aa rfl) rfl rfl) ?_) | (refine Xq (GF (ah rfl) rfl (Aa rfl) rfl rfl) ?_) | (refine Xq (Io (ah rfl) rfl (Aa rfl) rfl rfl) ?_) | (refine Xq (JZ (ah rfl) (Aa rfl) rfl rfl) ?_) | (refine Xq (PO (ah rfl) (Aa rfl) rfl rfl) ?_) | (refine Xq (FU (ah rfl) (Aa rfl) rfl rfl) ?_) | (refine Xq (Ka (ah rfl) rfl (Aa rfl) rfl (HH ZbI)) ?_) | (refine Xq (Ip (ah rfl) (Aa rfl) rfl (Gl ZbI)) ?_)) | (apply Gh.index;(refine Xq (Kd (ah rfl) (ah rfl) (Aa rfl) (Aa rfl) rfl ZbI (CellAt.mon ZbI)) ?_)) | (apply IN;first | (refine Xq (NN (ah rfl) (Aa rfl) rfl (Aa rfl) rfl rfl) ?_) | (refine Xq (GG (ah rfl) (Aa rfl) rfl (Aa rfl) rfl) ?_)) | (apply IM;first | (refine Xq (Kc rfl (ah rfl) (Aa rfl) (Aa rfl) rfl) ?_) | (refine Xq (Ch rfl (ah rfl) (Aa rfl) (Aa rfl) rfl ZbI) ?_) | (refine Xq (FM rfl (ah rfl) (Aa rfl) (Aa rfl) rfl rfl Zbx) ?_) | (refine Xq (KK (ah rfl) (ah rfl) (Aa rfl) (Aa rfl) ZbI) ?_) | (refine Xq (JB (ah rfl) (ah rfl) (Aa rfl) (Aa rfl) ZbI) ?_) | (refine Xq (ST (ah rfl) (ah rfl) (Aa rfl) (Aa rfl) ZbA ZbA rfl) ?_) | (refine Xq (SS (ah rfl) (ah rfl) (Aa rfl) (Aa rfl) ZbA ZbA) ?_) | (refine Xq (Kb (ah rfl) (ah rfl) (Aa rfl) (Aa rfl) ZbI) ?_)) | (apply A1R;first | (refine Xq (Bh rfl (Aa rfl)) ?_) | (refine Xq (NM (ah rfl) (Aa rfl)) ?_) | (refine Xq (WI rfl (Aa rfl)) ?_)) | (apply A1V;first | (refine Xq (JV (ah rfl) (ah rfl) Zbx) ?_) | (refine Xq (LH (ah rfl) (ah rfl) Zbx) ?_) | (refine Xq (MC (ah rfl) (ah rfl) Zbx Zbx) ?_)) | (apply A1Q;first | (refine Xq (LI (ah rfl) (ah rfl) Zbx Zbx) ?_) | (refine Xq (Mu (ah rfl) (ah rfl) Zbx Zbx) ?_)) | (apply Gh.quo;(refine Xq (WF (ah rfl) (ah rfl) Zbx Zbx Zbx) ?_)) | (apply WV;first | (refine Xq (PM (ah rfl) (ah rfl) Zbx Zbx) ?_) | (refine Xq (NL (ah rfl) (ah rfl) ZbA) ?_)) | (apply Gh.or;(refine Xq (WG (ah rfl) (ah rfl) ZbI ZbI) ?_)) | (apply A1T;first | (refine Xq (Fp rfl (ah rfl) (ah rfl) ZbF) ?_) | (refine Xq (GH rfl (ah rfl) (ah rfl) ZbF) ?_) | (refine Xq (SU (ah rfl) (ah rfl) rfl) ?_) | (refine Xq (Mz (ah rfl) (ah rfl) Zci) ?_) | (refine Xq (MA (ah rfl) (ah rfl) Zci) ?_) | (refine Xq (Mv (ah rfl) (ah rfl) Zci) ?_) | (refine Xq (Mw (ah rfl) (ah rfl) Zci) ?_) | (refine Xq (JC (ah rfl) (ah rfl)) ?_) | (refine Xq (JA (ah rfl) (ah rfl)) ?_) | (refine Xq (MB (ah rfl) (ah rfl) Zbz) ?_) | (refine Xq (JY (ah rfl) (ah rfl) Zbz) ?_)) | (apply A3R;first | (refine Xq (SQ (ah rfl)) ?_) | (refine Xq (PN (ah rfl) Zbx Zbx) ?_)) | (apply Gh.max;(refine Xq (WH (ah rfl) (ah rfl)) ?_)) | (apply A1S;(refine Xq (WJ (ah rfl) rfl) ?_)) | (apply Yc;first | (refine Xq (Gj (ah rfl) (ah rfl)) ?_) | (refine Xq (In (ah rfl) (ah rfl)) ?_) | (refine Xq (LK (ah rfl) (ah rfl) (ah rfl)) ?_) | (refine Xq (LJ (ah rfl) (ah rfl) (ah rfl)) ?_)) | (apply MD;first | (refine Xq (CF (ah rfl) (Aa rfl) (Aa rfl) rfl rfl rfl rfl rfl) ?_) | (refine Hq rfl ?_;refine De (Aa rfl) (Aa rfl) rfl rfl rfl rfl rfl ?_;(repeat ((first | refine⟨_,As (ah rfl),?_⟩ | refine⟨_,Po rfl,?_⟩);refine⟨_,rfl,?_⟩));refine⟨_,rfl,?_⟩;refine⟨_,rfl,?_⟩)) | (apply SY;first | (refine Xq (FN (ah rfl) (Aa rfl) (Aa rfl) Zbx Zbx) ?_) | (refine Xq (NO (ah rfl) (Aa rfl) (Aa rfl)) ?_)) | (apply PT;first | (refine Hq rfl ?_;refine AP (Aa rfl) rfl rfl rfl ?_;(repeat ((first | refine⟨_,As (ah rfl),?_⟩ | refine⟨_,Po rfl,?_⟩);refine⟨_,rfl,?_⟩));refine⟨_,rfl,?_⟩;refine⟨_,rfl,?_⟩) | (refine Hq rfl ?_;refine ME (Aa rfl) (Aa rfl) rfl rfl ?_;(repeat ((first | refine⟨_,As (ah rfl),?_⟩ | refine⟨_,Po rfl,?_⟩);refine⟨_,rfl,?_⟩));refine⟨_,rfl,?_⟩;refine⟨_,rfl,?_⟩)) | (apply PS;first | (refine Xq (PP (ah rfl) rfl Zci) ?_) | (refine Xq (EL (ah rfl) Zci ZbL) ?_)) | (refine⟨_,A1N rfl rfl rfl,?_⟩;refine⟨_,rfl,?_⟩) | (apply SW;(refine⟨_,AN rfl rfl (Bb (ah rfl)),?_⟩;refine⟨_,rfl,?_⟩)) | (apply RB;(refine⟨_,AN rfl rfl (Dh (ah rfl)),?_⟩;refine⟨_,rfl,?_⟩)) | (apply SX;first | (refine⟨_,AN rfl rfl (Mx (ah rfl) rfl (Aa rfl) rfl rfl),?_⟩;refine⟨_,rfl,?_⟩) | (refine⟨_,AN rfl rfl (GF (ah rfl) rfl (Aa rfl) rfl rfl),?_⟩;refine⟨_,rfl,?_⟩) | (refine⟨_,AN rfl rfl (Io (ah rfl) rfl (Aa rfl) rfl rfl),?_⟩;refine⟨_,rfl,?_⟩) | (refine⟨_,AN rfl rfl (JZ (ah rfl) (Aa rfl) rfl rfl),?_⟩;refine⟨_,rfl,?_⟩) | (refine⟨_,AN rfl rfl (PO (ah rfl) (Aa rfl) rfl rfl),?_⟩;refine⟨_,rfl,?_⟩) | (refine⟨_,AN rfl rfl (FU (ah rfl) (Aa rfl) rfl rfl),?_⟩;refine⟨_,rfl,?_⟩) | (refine⟨_,AN rfl rfl (Ka (ah rfl) rfl (Aa rfl) rfl (HH ZbI)),?_⟩;refine⟨_,rfl,?_⟩) | (refine⟨_,AN rfl rfl (Ip (ah rfl) (Aa rfl) rfl (Gl ZbI)),?_⟩;refine⟨_,rfl,?_⟩)) | (apply Gh.index;(refine⟨_,AN rfl rfl (Kd (ah rfl) (ah rfl) (Aa rfl) (Aa rfl) rfl ZbI (CellAt.mon ZbI)),?_⟩;refine⟨_,rfl,?_⟩)) | (apply IN;first | (refine⟨_,AN rfl rfl (NN (ah rfl) (Aa rfl) rfl (Aa rfl) rfl rfl),?_⟩;refine⟨_,rfl,?_⟩) | (refine⟨_,AN rfl rfl (GG (ah rfl) (Aa rfl) rfl (Aa rfl) rfl),?_⟩;refine⟨_,rfl,?_⟩)) | (apply IM;first | (refine⟨_,AN rfl rfl (Kc rfl (ah rfl) (Aa rfl) (Aa rfl) rfl),?_⟩;refine⟨_,rfl,?_⟩) | (refine⟨_,AN rfl rfl (Ch rfl (ah rfl) (Aa rfl) (Aa rfl) rfl ZbI),?_⟩;refine⟨_,rfl,?_⟩) | (refine⟨_,AN rfl rfl (FM rfl (ah rfl) (Aa rfl) (Aa rfl) rfl rfl Zbx),?_⟩;refine⟨_,rfl,?_⟩) | (refine⟨_,AN rfl rfl (KK (ah rfl) (ah rfl) (Aa rfl) (Aa rfl) ZbI),?_⟩;refine⟨_,rfl,?_⟩) | (refine⟨_,AN rfl rfl (JB (ah rfl) (ah rfl) (Aa rfl) (Aa rfl) ZbI),?_⟩;refine⟨_,rfl,?_⟩) | (refine⟨_,AN rfl rfl (ST (ah rfl) (ah rfl) (Aa rfl) (Aa rfl) ZbA ZbA rfl),?_⟩;refine⟨_,rfl,?_⟩) | (refine⟨_,AN rfl rfl (SS (ah rfl) (ah rfl) (Aa rfl) (Aa rfl) ZbA ZbA),?_⟩;refine⟨_,rfl,?_⟩) | (refine⟨_,AN rfl rfl (Kb (ah rfl) (ah rfl) (Aa rfl) (Aa rfl) ZbI),?_⟩;refine⟨_,rfl,?_⟩)) | (apply A1R;first | (refine⟨_,AN rfl rfl (Bh rfl (Aa rfl)),?_⟩;refine⟨_,rfl,?_⟩) | (refine⟨_,AN rfl rfl (NM (ah rfl) (Aa rfl)),?_⟩;refine⟨_,rfl,?_⟩) | (refine⟨_,AN rfl rfl (WI rfl (Aa rfl)),?_⟩;refine⟨_,rfl,?_⟩)) | (apply A1V;first | (refine⟨_,AN rfl rfl (JV (ah rfl) (ah rfl) Zbx),?_⟩;refine⟨_,rfl,?_⟩) | (refine⟨_,AN rfl rfl (LH (ah rfl) (ah rfl) Zbx),?_⟩;refine⟨_,rfl,?_⟩) | (refine⟨_,AN rfl rfl (MC (ah rfl) (ah rfl) Zbx Zbx),?_⟩;refine⟨_,rfl,?_⟩)) | (apply A1Q;first | (refine⟨_,AN rfl rfl (LI (ah rfl) (ah rfl) Zbx Zbx),?_⟩;refine⟨_,rfl,?_⟩) | (refine⟨_,AN rfl rfl (Mu (ah rfl) (ah rfl) Zbx Zbx),?_⟩;refine⟨_,rfl,?_⟩)) | (apply Gh.quo;(refine⟨_,AN rfl rfl (WF (ah rfl) (ah rfl) Zbx Zbx Zbx),?_⟩;refine⟨_,rfl,?_⟩)) | (apply WV;first | (refine⟨_,AN rfl rfl (PM (ah rfl) (ah rfl) Zbx Zbx),?_⟩;refine⟨_,rfl,?_⟩) | (refine⟨_,AN rfl rfl (NL (ah rfl) (ah rfl) ZbA),?_⟩;refine⟨_,rfl,?_⟩)) | (apply Gh.or;(refine⟨_,AN rfl rfl (WG (ah rfl) (ah rfl) ZbI ZbI),?_⟩;refine⟨_,rfl,?_⟩)) | (apply A1T;first | (refine⟨_,AN rfl rfl (Fp rfl (ah rfl) (ah rfl) ZbF),?_⟩;refine⟨_,rfl,?_⟩) | (refine⟨_,AN rfl rfl (GH rfl (ah rfl) (ah rfl) ZbF),?_⟩;refine⟨_,rfl,?_⟩) | (refine⟨_,AN rfl rfl (SU (ah rfl) (ah rfl) rfl),?_⟩;refine⟨_,rfl,?_⟩) | (refine⟨_,AN rfl rfl (Mz (ah rfl) (ah rfl) Zci),?_⟩;refine⟨_,rfl,?_⟩) | (refine⟨_,AN rfl rfl (MA (ah rfl) (ah rfl) Zci),?_⟩;refine⟨_,rfl,?_⟩) | (refine⟨_,AN rfl rfl (Mv (ah rfl) (ah rfl) Zci),?_⟩;refine⟨_,rfl,?_⟩) | (refine⟨_,AN rfl rfl (Mw (ah rfl) (ah rfl) Zci),?_⟩;refine⟨_,rfl,?_⟩) | (refine⟨_,AN rfl rfl (JC (ah rfl) (ah rfl)),?_⟩;refine⟨_,rfl,?_⟩) | (refine⟨_,AN rfl rfl (JA (ah rfl) (ah rfl)),?_⟩;refine⟨_,rfl,?_⟩) | (refine⟨_,AN rfl rfl (MB (ah rfl) (ah rfl) Zbz),?_⟩;refine⟨_,rfl,?_⟩) | (refine⟨_,AN rfl rfl (JY (ah rfl) (ah rfl) Zbz),?_⟩;refine⟨_,rfl,?_⟩)) | (apply A3R;first | (refine⟨_,AN rfl rfl (SQ (ah rfl)),?_⟩;refine⟨_,rfl,?_⟩) | (refine⟨_,AN rfl rfl (PN (ah rfl) Zbx Zbx),?_⟩;refine⟨_,rfl,?_⟩)) | (apply Gh.max;(refine⟨_,AN rfl rfl (WH (ah rfl) (ah rfl)),?_⟩;refine⟨_,rfl,?_⟩)) | (apply A1S;(refine⟨_,AN rfl rfl (WJ (ah rfl) rfl),?_⟩;refine⟨_,rfl,?_⟩)) | (apply Yc;first | (refine⟨_,AN rfl rfl (Gj (ah rfl) (ah rfl)),?_⟩;refine⟨_,rfl,?_⟩) | (refine⟨_,AN rfl rfl (In (ah rfl) (ah rfl)),?_⟩;refine⟨_,rfl,?_⟩) | (refine⟨_,AN rfl rfl (LK (ah rfl) (ah rfl) (ah rfl)),?_⟩;refine⟨_,rfl,?_⟩) | (refine⟨_,AN rfl rfl (LJ (ah rfl) (ah rfl) (ah rfl)),?_⟩;refine⟨_,rfl,?_⟩)) | (apply MD;first | (refine⟨_,AN rfl rfl (CF (ah rfl) (Aa rfl) (Aa rfl) rfl rfl rfl rfl rfl),?_⟩;refine⟨_,rfl,?_⟩) | (refine HqG rfl rfl ?_;refine De (Aa rfl) (Aa rfl) rfl rfl rfl rfl rfl ?_;(repeat ((first | refine⟨_,As (ah rfl),?_⟩ | refine⟨_,Po rfl,?_⟩);refine⟨_,rfl,?_⟩));refine⟨_,rfl,?_⟩;refine⟨_,rfl,?_⟩)) | (apply SY;first | (refine⟨_,AN rfl rfl (FN (ah rfl) (Aa rfl) (Aa rfl) Zbx Zbx),?_⟩;refine⟨_,rfl,?_⟩) | (refine⟨_,AN rfl rfl (NO (ah rfl) (Aa rfl) (Aa rfl)),?_⟩;refine⟨_,rfl,?_⟩)) | (apply PT;first | (refine HqG rfl rfl ?_;refine AP (Aa rfl) rfl rfl rfl ?_;(repeat ((first | refine⟨_,As (ah rfl),?_⟩ | refine⟨_,Po rfl,?_⟩);refine⟨_,rfl,?_⟩));refine⟨_,rfl,?_⟩;refine⟨_,rfl,?_⟩) | (refine HqG rfl rfl ?_;refine ME (Aa rfl) (Aa rfl) rfl rfl ?_;(repeat ((first | refine⟨_,As (ah rfl),?_⟩ | refine⟨_,Po rfl,?_⟩);refine⟨_,rfl,?_⟩));refine⟨_,rfl,?_⟩;refine⟨_,rfl,?_⟩)) | (apply PS;first | (refine⟨_,AN rfl rfl (PP (ah rfl) rfl Zci),?_⟩;refine⟨_,rfl,?_⟩) | (refine⟨_,AN rfl rfl (EL (ah rfl) Zci ZbL),?_⟩;refine⟨_,rfl,?_⟩))));exact z.a):p:=h ⟨k⟩
variable{vn:Code}{vl:Exit->AS->Prop}{vd:List (Nat×AV)}{vw:List Ow}{b:Nat}
theorem DK{s0:An}(t T q:Nat)(h:BR vd t=some (.d (ex (.slice none 0 0))))(L:T≠335)(g:0<q)(F:GW H=some b)(C:Fk H (.row T q [])=some vw)(k:AWp P s0 n vn vl ⟨(t,.own b)::vd,vw⟩):AWp P s0 n vn vl ⟨vd,H⟩:=by
 rw[Ex C]at k;obtain rfl:=ET F;refine⟨λa w ⟨s,S,V,G⟩=>?_⟩;have o:a.tmps.getD t undef=.slice none 0 0:=G.fr t _ h
 have Q:t<a.tmps.size:=by
  rcases Nat.lt_or_ge t a.tmps.size with A | A
  .exact A
  .simp [A,undef]at o
 have I:a.tmps[t]? = some (.slice none 0 0):=by
  rw[Array.getD_eq_getD_getElem?,Array.getElem?_eq_getElem Q]at o;rw[Array.getElem?_eq_getElem Q];exact congrArg some o
 have M:a.put (some t) (.slice none 0 0)=a:=by
  unfold Act.put
  have:a.tmps.setIfInBounds t (.slice none 0 0)=a.tmps:=by
   apply Array.ext_getElem?;intro i;by_cases K:t=i
   .subst K;rw[I];simp[Q]
   .rw [Array.getElem?_setIfInBounds_ne K]
  simp only[this]
 have := G.new (GS.Le.refl s) (dst := some t) (v := .slice none 0 0) (u := .slice none 0 0) (r := .own H.length) (ow := .row T q []) (fun d W => by cases W; rw [← G.sz]; exact Q) ⟨Nat.lt_succ_self _, by simp⟩
  ⟨[],by simp only[if_pos];exact⟨by simp,.inl ⟨rfl,rfl⟩⟩,L,g,λu E=>by simp[Dc]at E,λk B=>absurd B (Nat.not_lt_zero k)⟩ (λu E=>by cases E)
 rw[M]at this;exact Zhy
theorem GK(b:Bool)(l:List Nat):Abs Tryz.prog 239 [ex (.bool b),wD l] (AL (Ci (Ir b (val l)))):=by
 refine Bv (Ag Tryz.func239 Zbz Zbz) λs F T L o=>?_;rw[Yj L];have f:F.getD 0 undef=.bool b:=o 0 ZbK;rw[f];exact(JU b _ l s.w (Ec (o 1 ZbK))).mono λe O ⟨y,Y,m,k,a,Z,X⟩=>⟨_,a,X,λc V u _ _=>by subst V;exact GB u Z⟩
variable{l f vm:List Nat}
theorem Vi(b:∀args w,(callFunc vb args).run Tryz.prog w=.ok (.enter vb args) w)(h:∀(i z:Value) (w:World),Words w i l->Words w z f->Calls Tryz.prog vb #[i,z] w λe O=>∃R,e=.returned R/\Words O R vm/\Ext w O):Abs Tryz.prog vb [wD l,wD f] (wD vm):=by
 refine Bv b λs F T L o=>?_;rw[Yj L];exact(h _ _ s.w (Ec (o 0 ZbK)) (Ec (o 1 ZbK))).mono λe O ⟨v,a,Z,X⟩=>⟨_,a,X,λc V u _ _=>by subst V;exact KU u Z⟩
theorem Yt(x y:Nat)(h:(Ao x).length<=4398046511104)(s:(Ao y).length<=4398046511104):Abs Tryz.prog 278 [wD (Ao x),wD (Ao y)] (wD (Ao (x*y))):=
 Vi (Ag Tryz.func278 Zbz Zbz) fun i z w t E => by
  have:=KJ i z _ _ w t E h s;rwa [AB,AB]at this
theorem Zu(x y:Nat)(h:(Ao x).length<=4398046511104)(s:(Ao y).length<=4398046511104):Abs Tryz.prog 275 [wD (Ao x),wD (Ao y)] (wD (Ao (x+y))):=
 Vi (Ag Tryz.func275 Zbz Zbz) fun i z w t E => by
  have:=Wh i z _ _ w t E h s;rwa [AB,AB]at this
theorem QF(x y:Nat)(h:y<=x)(u:(Ao x).length<=4398046511104):Abs Tryz.prog 277 [wD (Ao x),wD (Ao y)] (wD (Ao (x-y))):=
 Vi (Ag Tryz.func277 Zbz Zbz) fun i z w t E => by
  have:=We i z _ _ w t E (by rw[AB,AB];exact h) (BY h) u;rwa [AB,AB]at this
theorem Ul(x y:Nat)(h:(Ao x).length<=4398046511103)(g:y≠0):Abs Tryz.prog 282 [wD (Ao x),wD (Ao y)] (EX [wD (Ao (x/y)),wD (Ao (x%y))]):=by
 refine Bv (Ag Tryz.func282 Zbz Zbz) λs G T L o=>?_;rw[Yj L];refine(IK _ _ x y s.w (Ec (o 0 ZbK)) (Ec (o 1 ZbK)) h g).mono λe O ⟨A,I,n,c,F,r,a,u,B,X⟩=>⟨_,a,X,λE V K _ _=>?_⟩;subst V;refine⟨_,rfl,rfl,λk C=>?_⟩;have C:k<2:=C
 match k,C with
 |0,_=>exact⟨_,rfl,KU K u⟩
 |1,_=>exact⟨_,rfl,KU K B⟩
theorem Ib(x y:Int)(h:(Ao x.natAbs).length<=4398046511104)(X:(Ao y.natAbs).length<=4398046511104):Abs Tryz.prog 215 [AL (Ci x),AL (Ci y)] (AL (Ci (x*y))):=by
 have b:=GK (decide (x<0) != decide (y<0)) (Ao (x.natAbs*y.natAbs));rw[AB,show Ir (decide (x<0) != decide (y<0)) (x.natAbs*y.natAbs)=x*y from Xs x y]at b;refine Ab Tryz.func215 λA=>?_;rw[Tryz.ntmps215];apply Y1;refine Bx ?_;refine Bx ?_;refine Al ?_;refine Y0<|Aj ?_
 refine Dy 11 ?_;refine Xq AH ?_;refine Xq AM ?_;refine Xq AH ?_;refine Xq AM ?_;refine Xq ZH ?_;refine Xq AH ?_;refine Xq AM ?_;refine Xq AH ?_;refine Xq AM ?_;refine Xq (BC (Yt x.natAbs y.natAbs h X)) ?_;refine Xq (BC (b)) ?_;refine⟨_,rfl,?_⟩;refine Sf ?_;refine Y0<|BG ?_
 exact Zhz
theorem YW(x:Int):Abs Tryz.prog 279 [AL (Ci x)] (AL (Ci (-x))):=by
 have b:=GK (!decide (x<0)) (Ao x.natAbs);rw[AB,Xr]at b;refine Ab Tryz.func279 λA=>?_;rw[Tryz.ntmps279];exact ZeH
theorem YX(x y:Int)(u:(Ao x.natAbs).length<=4398046511104)(X:(Ao y.natAbs).length<=4398046511104):Abs Tryz.prog 214 [AL (Ci x),AL (Ci y)] (AL (Ci (x+y))):=by
 have w:=GK (decide (x<0));have K:=GK (decide (y<0));by_cases h:decide (x<0)=decide (y<0)
 .have E:(decide (x<0)==decide (y<0))=true:=by simp [h]
  have c:=w (Ao (x.natAbs+y.natAbs));rw[AB,RP h]at c;refine Ab Tryz.func214 λA=>?_;rw[Tryz.ntmps214];refine Go ?_;refine Dy 8 ?_;have I:=Zu x.natAbs y.natAbs u X;exact ZgX
 .have E:(decide (x<0)==decide (y<0))=false:=by simp [h]
  by_cases Q:x.natAbs<y.natAbs
  .have G:EQ x.natAbs y.natAbs<0:=by rw [EQ, if_pos Q];decide
   have c:=K (Ao (y.natAbs-x.natAbs));rw[AB,Vq h Zbx]at c;refine Ab Tryz.func214 λA=>?_;rw[Tryz.ntmps214];have k:=Ks x.natAbs y.natAbs;refine Go ?_;refine Dy 8 ?_;have O:=QF y.natAbs x.natAbs Zbx X;exact ZgX
  .have G:¬EQ x.natAbs y.natAbs<0:=by rw [EQ, if_neg Q];split<;>decide
   have c:=w (Ao (x.natAbs-y.natAbs));rw[AB,Vr h Zbx]at c;refine Ab Tryz.func214 λA=>?_;rw[Tryz.ntmps214];have z:=Ks x.natAbs y.natAbs;refine Go ?_;refine Dy 8 ?_;have J:=QF x.natAbs y.natAbs Zbx u;exact ZgX
variable{vz:Array Value}{z v ui:Value}{w:World}
theorem YJ{j I A:ResultVar}(h:vK.results=#[j,I,A])(o:(El vz j).run P w=.ok z w)(G:(El vz I).run P w=.ok v w)(B:(El vz A).run P w=.ok ui w):(results vK vz).run P w=.ok (.tuple #[z,v,ui]) w:=by
 have key:(results vK vz).run P w=((El vz j).run P w).andThen λa O=>((El vz I).run P O).andThen λb H=>((El vz A).run P H).andThen λc u=>.ok (.tuple #[a,b,c]) u:=by
  unfold results;rw[h];cases j<;>cases I<;>cases A<;>simp[El,Kq]
 rw[key,o,Result.andThen_ok,G,Result.andThen_ok,B,Result.andThen_ok]
theorem UD{j M c:ResultVar}{x y z r:D}(h:ResV P vc j x)(A:ResV P vc M y)(I:ResV P vc c z)(L:D.le (EX [x,y,z]) r):Rets P vc #[j,M,c] r:=⟨λbase S s G C p i E=>by
 obtain⟨v,d,u⟩:=h.run base S s G i E;obtain⟨R,U,F⟩:=A.run base S s G i E;obtain⟨w,Z,K⟩:=I.run base S s G i E;refine⟨_,YJ p d U Z,L s _ ⟨_,rfl,rfl,λk B=>?_⟩⟩;have B:k<3:=B
 match k,B with
 |0,_=>exact⟨_,rfl,u⟩
 |1,_=>exact⟨_,rfl,F⟩
 |2,_=>exact⟨_,rfl,K⟩⟩
theorem A0M(x y:Int)(h:(Ao x.natAbs).length<=4398046511103)(N:y≠0)(Y:x.natAbs%y.natAbs=0):Abs Tryz.prog 225 [AL (Ci x),AL (Ci y)] (EX [AL (Ci (x/y)),AL (Ci (x%y)),ex (.int .i64 0)]):=by
 have L:¬(Ao y.natAbs).length=0:=λe=>N (by have:=Bi.1 e;omega);have W:=Uk N (.inr Y);have Q:=Ul x.natAbs y.natAbs h Zbx;have u:=GK (decide (x<0) != decide (y<0)) (Ao (x.natAbs/y.natAbs));have b:=GK false (Ao (x.natAbs%y.natAbs));rw[AB,show Ir (decide (x<0) != decide (y<0)) (x.natAbs/y.natAbs)=x/y from W.1.symm]at u;rw[AB,<-W.2]at b;have g:¬0<(Ao (x.natAbs%y.natAbs)).length:=by rw[Y,Br];exact Nat.lt_irrefl 0
 by_cases C:x<0
 .rw [decide_eq_true C]at u
  rw[show Ci x=[ex (.bool true),wD (Ao x.natAbs)]by rw[Ci,decide_eq_true C]];refine Ab Tryz.func225 λA=>?_;rw[Tryz.ntmps225];exact Zfh
 .rw [decide_eq_false C]at u
  rw[show Ci x=[ex (.bool false),wD (Ao x.natAbs)]by rw[Ci,decide_eq_false C]];refine Ab Tryz.func225 λA=>?_;rw[Tryz.ntmps225];exact Zfh
variable{s:GS}{a J:Int}
theorem A4A{e:Ending}(h:A1v a J w e s.w)(T:s.Ok):∃v,e=.returned v/\Ext w s.w/\(EX [AL (Ci a),AL (Ci J),ex (.int .i64 0)]).rel s v:=by
 obtain⟨b,x,A,G,n,c,F,r,E,u,B,X⟩:=h;refine⟨_,E,X,_,rfl,rfl,λk C=>?_⟩;have C:k<3:=C
 match k,C with
 |0,_=>exact⟨_,rfl,GB T u⟩
 |1,_=>exact⟨_,rfl,GB T B⟩
 |2,_=>exact⟨_,rfl,rfl⟩
variable{vQ vR:Int}
theorem A4B(S:∀args w,(callFunc vb args).run Tryz.prog w=.ok (.enter vb args) w)(h:∀(b x:Bool) (A k:Option Addr) (n c F r:Nat) (w:World),IsInt w (.bool b) (.slice A n c) a->IsInt w (.bool x) (.slice k F r) J->Calls Tryz.prog vb #[.agg #[.bool b,.slice A n c],.agg #[.bool x,.slice k F r]] w (A1v vQ vR w)):Abs Tryz.prog vb [AL (Ci a),AL (Ci J)] (EX [AL (Ci vQ),AL (Ci vR),ex (.int .i64 0)]):=by
 refine Bv S λs G T L o=>?_;rw[Yj L];obtain⟨M,j,Q,p,f,g⟩:=DD (o 0 ZbK);obtain⟨R,W,m,K,d,u⟩:=DD (o 1 ZbK);rw[f,d];refine(h M R j W Q p m K s.w g u).mono λe O Y=>?_;obtain⟨b,x,A,k,n,c,F,r,C,u,B,X⟩:=id Y;refine⟨_,C,X,λE V N _ _=>?_⟩;subst V;obtain⟨v,o,_,I⟩:=A4A Y N;rw[C]at o;cases o;exact I
theorem Sv(x y:Int)(u:(Ao x.natAbs).length<=4398046511104)(X:(Ao y.natAbs).length<=4398046511104)(N:y≠0)(Y:x.natAbs%y.natAbs=0):Abs Tryz.prog 291 [AL (Ci x),AL (Ci y)] (EX [AL (Ci (x/y)),AL (Ci (x%y)),ex (.int .i64 0)]):=
 A4B (Ag Tryz.func291 Zbz Zbz) λb B A k n c e r w h d=>SA b B A k n c e r x y w h d u X N (.inr Y)
theorem DF{q:Rat}(h:q.num=a)(W:(q.den:Int)=J):Ci a++Ci J=Fx q:=by
 rw[Fx,h,W];rfl
theorem Um:Ao 1=[1]:=by rw[Ee ZbA,show 1/BB=0 from rfl,Br];rfl
theorem A2y(h:(Ao a.natAbs).length=1):(Ao a.natAbs).getD 0 0=a.natAbs:=by
 obtain⟨w,V⟩:∃w,Ao a.natAbs=[w]:=List.length_eq_one_iff.1 h;have:=AB a.natAbs;rw[V]at this ⊢;have A:w+BB*0=a.natAbs:=this;show w=_;omega
theorem A4s(h:a<0):Ci a=[ex (.bool true),wD (Ao a.natAbs)]:=by rw[Ci,decide_eq_true h]
theorem A4t(h:¬a<0):Ci a=[ex (.bool false),wD (Ao a.natAbs)]:=by rw[Ci,decide_eq_false h]
theorem NF(z:Int):Abs Tryz.prog 285 [AL (Ci z)] (ex (.bool (decide (z=1)))):=by
 by_cases B:z<0
 .rw [decide_eq_false (show ¬z=1 by omega), A4s B]
  refine Ab Tryz.func285 λC=>?_;rw[Tryz.ntmps285];exact ZeE
 .rw [A4t B]
  by_cases u:(Ao z.natAbs).length=1
  .have A:=A2y u
   have g:(0:Nat)<(Ao z.natAbs).length:=by omega
   have W:decide (z=1)=decide ((((Ao z.natAbs).getD 0 0:Nat):Int)=1):=decide_eq_decide.2 (by rw[A];omega);rw[W];refine Ab Tryz.func285 λC=>?_;rw[Tryz.ntmps285];apply Y1;refine Bx ?_;refine Wa<|Y0<|Y1 ?_;refine Wq AH ?_;refine Wq AM ?_;refine Wq Jy ?_;refine Wm ?_;refine Wg AH ?_;refine Wg AM ?_;refine Wg NK ?_;refine Wg AZ ?_;refine Wq EC ?_;refine Wm ?_;refine Wg AH ?_;refine Wg AM ?_;refine Wg (Kb (l:=Ao z.natAbs) (k:=0) (ao rfl) (ao rfl) (Aa rfl) (Aa rfl) g) ?_;refine Wg Az ?_;refine Wg BP ?_;refine Wq EC ?_;refine Wa<|Y0<|BG ?_
   exact Yf
  .have E:¬z=1:=λe=>u (by rw [e]; exact congrArg List.length Um)
   rw[decide_eq_false E];refine Ab Tryz.func285 λC=>?_;rw[Tryz.ntmps285];exact ZeE
theorem FY(z:Int)(g:-9223372036854775808<=z)(u:z<=9223372036854775807):Abs Tryz.prog 70 [ex (.int .i64 z)] (AL (Fx (z:Rat))):=by
 refine Ab Tryz.func70 λA=>?_;rw[Tryz.ntmps70];have O:=Lw z g u;have B:=Lw 1 Zbx Zbx;refine Go ?_;exact Aq (Ak (ResV.cell rfl rfl (Aa rfl) rfl rfl rfl) (Af (congrArg AL (DF rfl rfl))))
theorem Eh(p:Rat):Abs Tryz.prog 137 [AL (Fx p)] (ex (.int .i64 p.num.sign)):=by
 rw[<-DF (q:=p) rfl rfl];refine Ab Tryz.func137 λA=>?_;rw[Tryz.ntmps137];have J:=ED p.num;exact ZeE
theorem IC(p:Rat):Abs Tryz.prog 140 [AL (Fx p)] (ex (.int .i64 p.num.sign)):=by
 rw[<-DF (q:=p) rfl rfl];refine Ab Tryz.func140 λA=>?_;rw[Tryz.ntmps140];have d:=RA p.num;exact ZeE
theorem OL(x y:Int)(h:(Ao x.natAbs).length<=4398046511104)(X:(Ao y.natAbs).length<=4398046511104)(N:0<y):Abs Tryz.prog 322 [AL (Ci x),AL (Ci y)] (AL (Fx (Rat.divInt x y))):=by
 have C:=NF y;by_cases u:y=1
 .subst u
  have W:=VR x;rw[decide_eq_true rfl]at C;refine Ab Tryz.func322 λB=>?_;rw[Tryz.ntmps322];exact ZfH
 .rw [decide_eq_false u]at C
  have V:=NI x y h X;have b:=NF (Nat.gcd x.natAbs y.natAbs:Nat);have F:=Da (x:=x) N;have G:0<Nat.gcd x.natAbs y.natAbs:=Nat.gcd_pos_of_pos_right _ Zbx;have E:(Ao ((Nat.gcd x.natAbs y.natAbs:Nat):Int).natAbs).length<=4398046511104:=Nat.le_trans (BY (Nat.le_of_dvd Zbx (Nat.gcd_dvd_right _ _))) X;by_cases A:((Nat.gcd x.natAbs y.natAbs:Nat):Int)=1
  .have W:=Pk (x:=x) N Zbx
   rw[decide_eq_true A]at b;refine Ab Tryz.func322 λB=>?_;rw[Tryz.ntmps322];exact ZfH
  .rw [decide_eq_false A]at b
   have g:=Sv x (Nat.gcd x.natAbs y.natAbs:Nat) h E Zbx (Nat.mod_eq_zero_of_dvd (Nat.gcd_dvd_left _ _));have r:=Sv y (Nat.gcd x.natAbs y.natAbs:Nat) X E Zbx (Nat.mod_eq_zero_of_dvd (Nat.gcd_dvd_right _ _));refine Ab Tryz.func322 λB=>?_;rw[Tryz.ntmps322];refine Go ?_;exact Aq (Ak (ResV.cell rfl rfl (Aa rfl) rfl rfl rfl) (Af (congrArg AL (DF F.1 F.2))))
def pk(l:List Int):Nat->Int
 |0=>1
 |k+1=>pk l k*l.getD k default
theorem Tx(x y:Int)(N M:Nat)(C:(Ao x.natAbs).length<=N)(E:(Ao y.natAbs).length<=M)(Y:N<=4398046511104)(i:M<=4398046511104):Abs Tryz.prog 234 [slD 109 2 ([x,y].map Ci)] (AL (Ci (x*y))):=by
 have W:pk [x,y] 2=x*y:=by
  show 1*x*y=x*y;rw[Int.one_mul]
 have P:(Ao (1:Int).natAbs).length<=1:=by rw[show(1:Int).natAbs=1 from rfl,Um];exact Nat.le_refl 1
 refine Ab Tryz.func234 λF=>?_;rw[Tryz.ntmps234];have I:=Si 1 Zbx Zbx;refine Go ?_;refine AE (λG f=>∃k,k<=2/\G=2-k/\f=⟨[(2,.ptr 0 0),(3,.ptr 1 0),(7,.d (slD 109 2 ([x,y].map Ci))),(8,.d (ex (.int .i64 ((2:Nat):Int)))),(9,.d (ex (.int .i64 (k:Nat))))],[.var 109 ([ex (.bool false),ex (.slice none 0 0)].map .d),.var 109 ((Ci (pk [x,y] k)).map .d)]⟩) ?le ⟨0,by omega,rfl,rfl⟩ ?round
 case le=>exact Ac ZbT Zcn
 case round=>
  rintro G _ ⟨k,B,rfl,rfl⟩;by_cases Q:k<2
  .have B:k<[x,y].length:=Q
   have U:pk [x,y] (k+1)=pk [x,y] k*[x,y].getD k default:=rfl
   have R:(Ao (pk [x,y] k).natAbs).length<=4398046511104:=by
    have:k=0\/k=1:=by omega
    rcases this with rfl | rfl
    .exact Nat.le_trans P Zbx
    .rw [show pk [x,y] 1=1*x from rfl,Int.one_mul];omega
   have K:(Ao ([x,y].getD k default).natAbs).length<=4398046511104:=by
    have:k=0\/k=1:=by omega
    rcases this with rfl | rfl
    .show (Ao x.natAbs).length<=_;omega
    .show (Ao y.natAbs).length<=_;omega
   have h:=NF ([x,y].getD k default);have b:=NF (pk [x,y] k);have g:=Sn (pk [x,y] k) ([x,y].getD k default) R K;by_cases u:[x,y].getD k default=1
   .rw [decide_eq_true u]at h
    rw[u,Int.mul_one]at U;refine Zfm ?_;exact Ac ZbT (by exact Yv<|HpLe.cons (OwLe.varD (by rw[U]))<|HpLe.nil)
   .rw [decide_eq_false u]at h
    by_cases A:pk [x,y] k=1
    .rw [decide_eq_true A]at b
     rw[A,Int.one_mul]at U;refine Zfm ?_;exact Ac ZbT (by apply Yv;(refine HpLe.cons (OwLe.varD (by rw[U];rfl)) ?_);exact HpLe.nil)
    .rw [decide_eq_false A]at b
     refine Zfm ?_;exact Ac ZbT Zcn
  .obtain rfl:k=2:=by omega
   rw[W];exact ZeH
theorem A0L(p q:Rat)(N M:Nat)(F:RSz p N)(z:RSz q M)(Y:N+M<=4398046511104):Abs Tryz.prog 324 [AL (Fx p),AL (Fx q)] (AL (Fx (p*q))):=by
 have A:=p.den_pos;have B:=q.den_pos;have y:=Es p F;have E:=Es q z;have e:(Ao p.num.natAbs).length<=N:=F.1;have G:(Ao q.num.natAbs).length<=M:=z.1;have h:=OL p.num q.den Zbx Zbx Zbx;have b:=OL q.num p.den Zbx Zbx Zbx;have s:=QW p q;have I:RSz (Rat.divInt p.num q.den) 4398046511104:=RSz.divInt Zbx Zbx Zbx;have W:RSz (Rat.divInt q.num p.den) 4398046511104:=RSz.divInt Zbx Zbx Zbx;generalize Rat.divInt p.num q.den=u at h s I;generalize Rat.divInt q.num p.den=v at b s W;have g:=Tx u.num v.num _ _ I.1 W.1 Zbx Zbx;have r:=Tx u.den v.den _ _ (Es u I) (Es v W) Zbx Zbx;rw[<-DF (q:=p) rfl rfl,<-DF (q:=q) rfl rfl];rw[<-DF (q:=u) rfl rfl]at h;rw[<-DF (q:=v) rfl rfl]at b;refine Ab Tryz.func324 λC=>?_;rw[Tryz.ntmps324];refine Go ?_;refine Dy 13 ?_;refine ZeO ?_;exact Aq (Ak (ResV.cell rfl rfl (Aa rfl) rfl rfl rfl) (Af (congrArg AL (DF s.1 (by rw[s.2];push_cast;rfl)))))
theorem Yb(x g:Int)(h:(Ao x.natAbs).length<=4398046511103)(G:g≠0)(Y:x.natAbs%g.natAbs=0):Abs Tryz.prog 280 [AL (Ci x),AL (Ci g)] (AL (Ci (x/g))):=by
 refine Ab Tryz.func280 λA=>?_;rw[Tryz.ntmps280];have k:=A0M x g h G Y;exact ZeH
theorem PG(x y:Int)(u:(Ao x.natAbs).length<=4398046511103)(X:(Ao y.natAbs).length<=4398046511103)(N:y≠0):Abs Tryz.prog 216 [AL (Ci x),AL (Ci y)] (AL (Fx (Rat.divInt x y))):=by
 have F:=VH (x:=x) N;have G:=A2M (x:=x) N;have V:=A1t x y u X;have Z:=RA y
 have p:(Mj x y).natAbs=Nat.gcd x.natAbs y.natAbs:=by
  unfold Mj;split<;>omega
 have B:=Yb x (Mj x y) u G (by rw[p];exact Nat.mod_eq_zero_of_dvd (Nat.gcd_dvd_left _ _));have C:=Yb y (Mj x y) X G (by rw[p];exact Nat.mod_eq_zero_of_dvd (Nat.gcd_dvd_right _ _));by_cases h:y<0
 .have b:y.sign<0:=by rw [Int.sign_eq_neg_one_of_neg h];decide
  have q:=YW (Nat.gcd x.natAbs y.natAbs:Nat);rw[show -((Nat.gcd x.natAbs y.natAbs:Nat):Int)=Mj x y by rw[Mj,if_pos h]]at q;refine Ab Tryz.func216 λA=>?_;rw[Tryz.ntmps216];refine Go ?_;refine Dy 7 ?_;exact ZfB
 .have b:¬y.sign<0:=by rw [Int.sign_eq_one_of_pos Zbx];decide
  rw[show Mj x y=((Nat.gcd x.natAbs y.natAbs:Nat):Int)by rw[Mj,if_neg h]]at B C F;refine Ab Tryz.func216 λA=>?_;rw[Tryz.ntmps216];refine Go ?_;refine Dy 7 ?_;exact ZfB
theorem YV(p q:Rat)(N M:Nat)(F:RSz p N)(z:RSz q M)(Y:N+M<=4398046511103):Abs Tryz.prog 182 [AL (Fx p),AL (Fx q)] (AL (Fx (p*q))):=by
 have u:=p.den_pos;have A:=q.den_pos;have y:=Es p F;have C:=Es q z;have e:(Ao p.num.natAbs).length<=N:=F.1;have I:(Ao q.num.natAbs).length<=M:=z.1;have j:=Fo e I;have c:=Fo y C;have W:((p.den:Int)*q.den)≠0:=Int.mul_ne_zero Zbx Zbx;have h:=Ib p.num q.num Zbx Zbx;have b:=Ib p.den q.den Zbx Zbx;have g:=PG (p.num*q.num) ((p.den:Int)*q.den) Zbx Zbx W;rw[<-VF]at g;rw[<-DF (q:=p) rfl rfl,<-DF (q:=q) rfl rfl];refine Ab Tryz.func182 λB=>?_;rw[Tryz.ntmps182];apply Y1;refine Bx ?_;refine Bx ?_;refine Al ?_;refine Y0<|Aj ?_
 refine Dy 11 ?_;refine Xq AH ?_;refine Xq Bg ?_;refine Xq AH ?_;refine Xq Bg ?_;refine Xq (BC (h)) ?_;refine Xq AH ?_;refine Xq Bg ?_;refine Xq AH ?_;refine Xq Bg ?_;refine Xq (BC (b)) ?_;refine Xq (BC (g)) ?_;refine⟨_,rfl,?_⟩;refine Sf ?_;refine Y0<|BG ?_
 exact Zhz
theorem Mh(p q:Rat)(N M:Nat)(F:RSz p N)(z:RSz q M)(Y:N+M+1<=4398046511103):Abs Tryz.prog 133 [AL (Fx p),AL (Fx q)] (AL (Fx (p+q))):=by
 have u:=p.den_pos;have A:=q.den_pos;have y:=Es p F;have E:=Es q z;have e:(Ao p.num.natAbs).length<=N:=F.1;have I:(Ao q.num.natAbs).length<=M:=z.1;have j:=Fo e E;have c:=Fo I y;have C:=Fo y E;have K:=XM j (Nat.le_trans c Zbx);have W:((p.den:Int)*q.den)≠0:=Int.mul_ne_zero Zbx Zbx;have h:=Ib p.num q.den Zbx Zbx;have b:=Ib q.num p.den Zbx Zbx;have g:=YX (p.num*q.den) (q.num*p.den) Zbx Zbx;have r:=Ib p.den q.den Zbx Zbx;have a:=PG (p.num*q.den+q.num*p.den) ((p.den:Int)*q.den) Zbx Zbx W;rw[<-Rp]at a;rw[<-DF (q:=p) rfl rfl,<-DF (q:=q) rfl rfl];refine Ab Tryz.func133 λB=>?_;rw[Tryz.ntmps133];apply Y1;refine Bx ?_;refine Bx ?_;refine Al ?_;refine Y0<|Aj ?_
 refine Dy 17 ?_;refine Xq AH ?_;refine Xq Bg ?_;refine Xq AH ?_;refine Xq Bg ?_;refine Xq (BC (h)) ?_;refine Xq AH ?_;refine Xq Bg ?_;refine Xq AH ?_;refine Xq Bg ?_;refine Xq (BC (b)) ?_;refine Xq (BC (g)) ?_;refine Xq AH ?_;refine Xq Bg ?_;refine Xq AH ?_;refine Xq Bg ?_;refine Xq (BC (r)) ?_;refine Xq (BC (a)) ?_;refine⟨_,rfl,?_⟩;refine Sf ?_;refine Y0<|BG ?_
 exact Zhz
theorem Wn(P Q:List Tm)(A:P.length<=9223372036854775807):Abs Tryz.prog 17 [Cd P,Cd Q] (ex (.bool (Fa P Q))):=by
 by_cases L:P.length=Q.length
 .refine Ab Tryz.func17 λC=>?_
  rw[Tryz.ntmps17];refine Go ?_;refine AE (λF f=>∃k,k<=P.length/\F=P.length-k/\(∀j,j<k->tmB (Cm P j) (Cm Q j)=true)/\f=⟨[(0,.d (Cd P)),(1,.d (Cd Q)),(4,.d (ex (.bool false))),(5,.d (ex (.int .i64 (k:Nat))))],[]⟩) ?le ⟨0,by omega,rfl,λj h=>absurd h Zbx,rfl⟩ ?round
  case le=>exact ZhA
  case round=>
   rintro F _ ⟨k,B,rfl,I,rfl⟩;by_cases u:k<P.length
   .have c:=Qq (Cm P k) (Cm Q k)
    cases E:tmB (Cm P k) (Cm Q k)with
    |true=>
     rw[E]at c;refine Go ?_;refine Dy 10 ?_;refine ZeO ?_
     refine Am (P.length - (k + 1)) Zbx ⟨k + 1, by omega, rfl, fun j i => (by
      by_cases e:j=k
      .rw [e];exact E
      .exact I j Zbx),rfl⟩ ?_
     exact ZhA
    |false=>
     rw[E]at c
     have b:Fa P Q=false:=MN λh=>by
      have:=(JH.1 h).2 k u;rw[E]at this;cases this
     refine Go ?_;refine Dy 10 ?_;refine ZeO ?_;exact Aq (Ak (ResV.tmp rfl rfl) (Af (by rw[b])))
   .obtain rfl:k=P.length:=by omega
    have b:Fa P Q=true:=Ky.2 (JH.2 ⟨L,I⟩);exact Zgz
 .have b:Fa P Q=false:=MN λh=>L (JH.1 h).1
  refine Ab Tryz.func17 λC=>?_;rw[Tryz.ntmps17];exact Zgz
theorem Wk(P Q:List Tm):Abs Tryz.prog 17 [Cd P,Cd Q] (ex (.bool (Fa P Q))):=by
 refine⟨Ag Tryz.func17 Zbz Zbz,λs F u B I=>?_⟩;obtain⟨A,c,_,h,d,_⟩:=YO (I 0 ZbK);exact(Wn P Q Zbx).2 s F u B I
def Ht(i:Nat):Nat->Int:=On (λ_=>0) i 1
theorem WP(c:Rat)(m:Nat->Int)(P:List Tm)(N M:Nat)(G:c≠0)(v:RSz c N)(s:In8 m 0 65535)(X:PSz P M)(K:PIn P 0 65535)(T:∀t∈P,In8 (Cs m t.m) 0 65535)(h:P.length<=100000)(F:N+M<=4398046511104):Abs Tryz.prog 294 [AL (Fx c),AL (Cr m),Cd P] (EX [Cd (Vc c m P),ex (.int .i64 0)]):=by
 have b:c.num.sign≠0:=λe=>G (FF.1 e);refine Ab Tryz.func294 λA=>?_;rw[Tryz.ntmps294];have E:=Eh c;refine Go ?_;refine AE (λC f=>∃k,k<=P.length/\C=P.length-k/\f=⟨[(3,.ptr 0 0),(4,.ptr 1 0),(7,.d (ex (.int .i64 0))),(8,.own 2),(19,.d (Cd P)),(20,.d (ex (.int .i64 (P.length:Nat)))),(21,.d (ex (.int .i64 (k:Nat))))],[.var 111 ((Fx c).map .d),.var 112 ((Cr m).map .d),.row 114 12 ((Vc c m (P.take k)).map Nz)]⟩) ?le ⟨0,by omega,rfl,rfl⟩ ?round
 case le=>exact Ac Zdy (by exact Yv<|Yv<|Yr<|HpLe.nil)
 case round=>
  rintro C _ ⟨k,B,rfl,rfl⟩;by_cases Q:k<P.length
  .have u:=DM Q
   have I:=Oc Q;have O:=A0Q m (Cm P k).m s (K _ u) (T _ u);refine Go ?_;refine Dy 8 ?_;have z:=A0L c (Cm P k).c N M v (X _ u) F;refine CY ?_
   (refine Ap ?_);refine ZeT ?_;exact Ac Zdy ZcN
  .exact ZaI
theorem Ym{P:List Tm}(h:n<P.length):RJ (P.take (n+1))=RJ (P.take n) ||| suppTo (Cm P n).m 8:=Rb _ _ h
theorem Xi(P:List Tm):RJ P<256:=by
 have key:∀(P:List Tm) (s:Nat),s<256->P.foldl (λs t=>s ||| suppTo t.m 8) s<256:=by
  intro P
  induction P with
  |nil=>intro s h;exact h
  |cons t P n=>intro s h;exact n _ (Nat.or_lt_two_pow (n:=8) h (JG t.m 8))
 exact key P 0 Zbx
theorem ZP(P:List Tm)(h:P.length<=1000000):Abs Tryz.prog 245 [Cd P] (ex (.int .u8 (RJ P:Nat))):=by
 refine Ab Tryz.func245 λC=>?_;rw[Tryz.ntmps245];refine Go ?_;refine AE (λE f=>∃k,k<=P.length/\E=P.length-k/\f=⟨[(3,.d (ex (.int .u8 (RJ (P.take k):Nat)))),(6,.d (Cd P)),(7,.d (ex (.int .i64 (P.length:Nat)))),(8,.d (ex (.int .i64 (k:Nat))))],[]⟩) ?le ⟨0,by omega,rfl,rfl⟩ ?round
 case le=>exact ZhA
 case round=>
  rintro E _ ⟨k,B,rfl,rfl⟩;by_cases Q:k<P.length
  .have u:=Xi (P.take k)
   have A:=JG (Cm P k).m 8;have I:=Ym Q;have F:=Sp (Cm P k).m;refine ZeT ?_;exact Ac (by exact FrLe.cons rfl (AVle.int (by rw[I]))<|Yd<|Yd<|Yd<|FrLe.nil) Zch
  .exact ZaJ
def Jl(b:Bool)(l:List Nat):Bool:=if l.length=0 then !b else(((l.getD (l.length-1) 0:Nat):Int) != 0)
theorem OY(b:Bool)(l:List Nat)(h:l.length<=1000000000):Abs Tryz.prog 303 [AL [ex (.bool b),wD l]] (ex (.bool (Jl b l))):=by
 refine Ab Tryz.func303 λA=>?_;rw[Tryz.ntmps303];refine Go ?_;by_cases g:l.length=0
 .refine Go ?_
  exact Aq (Ak (ResV.tmp rfl rfl) (Af (by rw[Jl,if_pos g])))
 .refine Go ?_
  exact Aq (Ak (ResV.tmp rfl rfl) (Af (by rw[Jl,if_neg g])))
theorem NZ:∀{l:List Nat},l≠[]->l.getD (l.length-1) 0≠0->Du l=l
 |[],h,_=>absurd rfl h
 |[x],_,h=>by
  have h:x≠0:=h;simp[Du,h]
 |x::y::l,_,h=>by
  have d:(y::l).getD ((y::l).length-1) 0≠0:=by
   have e:(x::y::l).getD ((x::y::l).length-1) 0=(y::l).getD ((y::l).length-1) 0:=by simp
   rwa [e]at h
  have n:=NZ (l:=y::l) ZbK d;rw[Du,n]
variable{p:Bool}
theorem Ra(b:Bt l)(h:Jl p l=true):∃z:Int,p=decide (z<0)/\l=Ao z.natAbs:=by
 unfold Jl at h;split at h
 .rename_i g
  obtain rfl:=List.eq_nil_of_length_eq_zero g;exact⟨0,by simpa using h,by simp[Br]⟩
 .rename_i g
  have u:l≠[]:=λe=>g (by rw[e];rfl);have A:l.getD (l.length-1) 0≠0:=λe=>by rw[e]at h;simp at h
  have I:l=Ao (val l):=by rw[<-AW b,NZ u A]
  have V:val l≠0:=λe=>by rw[e,Br]at I;exact u I
  cases p with
  |true=>exact⟨-(val l:Int),by simp;omega,by simpa using I⟩
  |false=>exact⟨(val l:Int),by simp,by simpa using I⟩
theorem QY(z:Int):Jl (decide (z<0)) (Ao z.natAbs)=true:=by
 unfold Jl;split
 .rename_i h
  have:=Bi.1 h;have:z=0:=by omega
  subst this;rfl
 .rename_i h
  have W:(Ao z.natAbs).getD ((Ao z.natAbs).length-1) 0≠0:=by
   have key:∀n,n≠0->(Ao n).getD ((Ao n).length-1) 0≠0:=by
    intro n
    induction n using Nat.strongRecOn with
    |_ n A=>
     intro u;rw[Ee u];by_cases g:n/BB=0
     .rw [g,Br]
      have:n%BB=n:=Nat.mod_eq_of_lt (by have:=Nat.div_eq_zero_iff.1 g;rcases this with h | h;exact absurd h ZbA;exact h);simpa[this]using u
     .have:=A (n/BB) (Nat.div_lt_self (Nat.pos_of_ne_zero u) ZbA) g
      have B:(Ao (n/BB)).length≠0:=λe=>g (Bi.1 e);obtain⟨m,s⟩:∃m,(Ao (n/BB)).length=m+1:=⟨(Ao (n/BB)).length-1,by omega⟩;rw[s]at this;simp only[List.length_cons,s,Nat.add_sub_cancel,List.getD_cons_succ]at this ⊢;exact this
   exact key _ λe=>h (Bi.2 e)
  simp only[bne_iff_ne,ne_eq];omega
def QOk(b:Bool)(l:List Nat)(x:Bool)(u:List Nat):Prop:=∃q:Rat,b=decide (q.num<0)/\l=Ao q.num.natAbs/\x=decide ((q.den:Int)<0)/\u=Ao (q.den:Int).natAbs
theorem NH(h:decide (a<0)=decide (J<0))(d:Ao a.natAbs=Ao J.natAbs):a=J:=by
 have u:a.natAbs=J.natAbs:=by rw[<-AB a.natAbs,d,AB]
 have A:(a<0)↔(J<0):=by simpa using h
 omega
theorem SV(x y:Int):QOk (decide (x<0)) (Ao x.natAbs) (decide (y<0)) (Ao y.natAbs)↔0<y/\Nat.gcd x.natAbs y.natAbs=1:=by
 constructor
 .rintro ⟨q,u,A,I,V⟩
  have d:=NH u A;have v:=NH I V;subst d;subst v;exact⟨by have:=q.den_pos;omega,q.reduced⟩
 .rintro ⟨u,A⟩
  refine⟨⟨x,y.natAbs,by omega,A⟩,rfl,rfl,?_,?_⟩
  .show decide (y<0)=decide (((y.natAbs:Nat):Int)<0)
   rw[decide_eq_false (show¬y<0 by omega),decide_eq_false Zbx]
  .show Ao y.natAbs=Ao ((y.natAbs:Nat):Int).natAbs
   rfl
variable{ul:Bool}
theorem A1K(h:QOk p l ul f):Jl p l=true/\Jl ul f=true:=by
 obtain⟨q,rfl,rfl,rfl,rfl⟩:=h;exact⟨QY _,QY _⟩
def A2u(b:Bool)(l:List Nat)(x:Bool)(q:List Nat):List D:=[ex (.bool b),wD l,ex (.bool x),wD q]
open Classical in
theorem Vz(b:Bool)(l:List Nat)(E:Bool)(q:List Nat)(B:Bt l)(n:Bt q)(C:l.length<=1000000000)(X:q.length<=1000000000):Abs Tryz.prog 251 [AL (A2u b l E q)] (ex (.bool (decide (QOk b l E q)))):=by
 have I:=OY b l C;have K:=OY E q X
 cases u:Jl b l with
 |false=>
  have z:¬QOk b l E q:=λh=>by rw[(A1K h).1]at u;cases u
  rw[u]at I;rw[decide_eq_false z];refine Ab Tryz.func251 λF=>?_;rw[Tryz.ntmps251];exact ZeE
 |true=>
  rw[u]at I
  cases A:Jl E q with
  |false=>
   have z:¬QOk b l E q:=λh=>by rw[(A1K h).2]at A;cases A
   rw[A]at K;rw[decide_eq_false z];refine Ab Tryz.func251 λF=>?_;rw[Tryz.ntmps251];exact ZeE
  |true=>
   rw[A]at K;obtain⟨x,rfl,rfl⟩:=Ra B u;obtain⟨y,rfl,rfl⟩:=Ra n A;by_cases N:0<y
   .have t:y.sign=1:=Int.sign_eq_one_of_pos N
    have g:=If y;by_cases U:y=1
    .rw [decide_eq_true U]at g
     rw[decide_eq_true ((SV x y).2 ⟨N,by subst U;exact Nat.gcd_one_right _⟩)];refine Ab Tryz.func251 λF=>?_;rw[Tryz.ntmps251];have L:=ED y;exact ZeE
    .rw [decide_eq_false U]at g
     have G:decide (QOk (decide (x<0)) (Ao x.natAbs) (decide (y<0)) (Ao y.natAbs))=decide (((Nat.gcd x.natAbs y.natAbs:Nat):Int)=1):=by
      refine decide_eq_decide.2 ((SV x y).trans ⟨λh=>by omega,λh=>⟨N,by omega⟩⟩)
     rw[G];refine Ab Tryz.func251 λF=>?_;rw[Tryz.ntmps251];have k:=ED y;have O:=NI x y Zbx Zbx;have M:=If (Nat.gcd x.natAbs y.natAbs:Nat);exact ZeE
   .have t:y.sign<=0:=Int.sign_nonpos_iff.2 Zbx
    rw[decide_eq_false λh=>N ((SV x y).1 h).1];refine Ab Tryz.func251 λF=>?_;rw[Tryz.ntmps251];have J:=ED y;exact ZeE
end Go.Proofs.YtcikkglcoeedlaaGreat
