/- Part 20 of the proof of claimAnswers_holds. No condition. -/
import Derived.Test.YtcikkglcoeedlaaGreatCa11
import Derived.Test.YtcikkglcoeedlaaGreatCa19
set_option linter.unusedSimpArgs false
set_option linter.unusedVariables false
set_option maxRecDepth 100000
namespace Go.Proofs.YtcikkglcoeedlaaGreat
open Go.RowKit
variable{vc:AS}{ur:AS->Prop}{h:AV}{vS:Array Field}{vY:Array Oper}{vr:Array TypeId}{vy:Array Value}{vU:BinOp}{q uh:Bool}{vp ua:Code}{r vt:D}{vm:Exit->AS->Prop}{vW:Field}{vK:Func}{vb:FuncId}{s:GS}{i j us ux:Int}{o:IntKind}{vl uf:List (List D)}{vf:List (Nat×AV)}{u:List AV}{c vn uS:List D}{l f vo:List Nat}{ve uE:List Oper}{vJ:List Operand}{H vA:List Ow}{e:Type}{vu:List e}{n b T m a k g vk ui:Nat}{vd vw:Nat->Int}{va:Oper}{x y vN:Operand}{P:Program}{d:TypeDesc}{t U:TypeId}{z v ue:Value}{w:World}{vF:e->List D}
structure CellAt(ds:List D)(off:Nat)(u:D):Prop where
 lt:off<ds.length
 eq:Dd ds off=u
structure PartAt(ds:List D)(off n:Nat)(es:List D):Prop where
 le:off+n<=ds.length
 eq:(ds.drop off).take n=es
structure SetAt(ds:List D)(off:Nat)(es ds':List D):Prop where
 le:off+es.length<=ds.length
 eq:Rx ds off es=ds'
theorem CellAt.mon{a:Nat->Int}(h:n<8):CellAt (Co a) n (ex (.int .i64 (a n))):=⟨h,Ov h⟩
theorem Id(h:n<8):CellAt (Co vd) (0+n*1) (ex (.int .i64 (vd n))):=by rw[Nat.zero_add,Nat.mul_one];exact .mon h
theorem GD{k:Nat}(h:k<8):CellAt ((Co vd).drop (k*1)) 0 (ex (.int .i64 (vd k))):=by
 rw[Nat.mul_one];refine⟨by rw[List.length_drop,UF];omega,?_⟩;rw[Hx];exact Ov h
theorem ZX(h:n<8):Rx (Co vd) n [ex (.int .i64 i)]=Co (Pe vd n i):=by
 match n,h with
 |0,_=>rfl
 |1,_=>rfl
 |2,_=>rfl
 |3,_=>rfl
 |4,_=>rfl
 |5,_=>rfl
 |6,_=>rfl
 |7,_=>rfl
theorem SetAt.mon{a:Nat->Int}(h:n<8):SetAt (Co a) (0+n*1) [ex (.int .i64 i)] (Co (Pe a n i)):=by
 rw[Nat.zero_add,Nat.mul_one];exact⟨h,ZX h⟩
def A51:List (List D)->Nat->Option (List D)
 |[],_=>none
 |r::_,0=>some r
 |_::l,i+1=>A51 l i
theorem Yx:∀{l:List (List D)} {i:Nat} {r:List D},A51 l i=some r->r=l.getD i []/\i<l.length
 |[],_,_,h=>by cases h
 |x::l,0,r,h=>by cases h;exact⟨rfl,by simp⟩
 |x::l,i+1,r,h=>by
  obtain⟨A,B⟩:=Yx (l:=l) (i:=i) h;exact⟨by simpa using A,by simp;omega⟩
section
variable {P:Program} {hp:List Ow} {arg:Operand->AV} {dd:Option Tmp} {ty:TypeId} {ps:String} {af:Array Edge} {gd:Option (Nat×Bool)}
theorem Lp{e n b Y r len id off k:Nat}(E:arg x=.ptr id off)(O:arg y=.d (ex (.int o ((k:Nat):Int))))(J:Tab P t (.array len e) n b z)(X:Tab P e d Y r v)(C:k<len):Quiet P hp ⟨dd,.indexAddr t x y,ty,ps,af,gd⟩ arg (.ptr id (off+k*Y)):=
 Mh (o:=⟨dd,.indexAddr t x y,ty,ps,af,gd⟩) rfl E O J X ZbK ZbK
theorem JX{e n b Y r len T k:Nat}(E:arg x=.d (Fb T c))(O:arg y=.d (ex (.int o ((k:Nat):Int))))(J:Tab P t (.array len e) n b z)(X:Tab P e d Y r v)(C:k<len):Quiet P hp ⟨dd,.indexAddr t x y,ty,ps,af,gd⟩ arg (.d (Fb T (c.drop (k*Y)))):=
 Mi (o:=⟨dd,.indexAddr t x y,ty,ps,af,gd⟩) rfl E O J X ZbK ZbK
theorem Ge{e n b Y F T k:Nat}{r:List D}(E:GG hp (arg x)=some (slD T k vl))(O:arg y=.d (ex (.int o i)))(J:Tab P t (.slice e) n b z)(X:Tab P e d Y F v)(G:Y=k)(C:A51 vl i.toNat=some r)(g:0<=i):Quiet P hp ⟨dd,.indexAddr t x y,ty,ps,af,gd⟩ arg (.d (Fb T r)):=by
 obtain⟨A,B⟩:=Yx C;rw[A];exact Quiet.index (o:=⟨dd,.indexAddr t x y,ty,ps,af,gd⟩) rfl E O J X G g ZbK
theorem Mm(E:arg x=.d (ex (.int .i64 ((n:Nat):Int))))(O:arg y=.d (ex (.int .i64 1)))(g:0<n)(A:(n:Int)<9223372036854775807):Quiet P hp ⟨dd,.binOp .sub t x y U,ty,ps,af,gd⟩ arg (.d (ex (.int .i64 ((n-1:Nat):Int)))):=by
 have:=Quiet.sub (P:=P) (hp:=hp) (o:=⟨dd,.binOp .sub t x y U,ty,ps,af,gd⟩) rfl E O ZbK ZbK;rwa [show(n:Int)-1=((n-1:Nat):Int)by omega]at this
theorem Kz(E:arg x=.ptr m a)(l:hp[m]? = some (.var T (c.map .d)))(J:Tab P t d n b z)(Z:Ej d=false)(I:CellAt c a r):Quiet P hp ⟨dd,.load t x,ty,ps,af,gd⟩ arg (.d r):=by
 have:=Mg (P:=P) (o:=⟨dd,.load t x,ty,ps,af,gd⟩) rfl E l J Z I.lt;rwa [I.eq]at this
theorem IE(E:arg x=.d (Fb T c))(J:Tab P t d n b z)(Z:Ej d=false)(I:CellAt c 0 r):Quiet P hp ⟨dd,.load t x,ty,ps,af,gd⟩ arg (.d r):=by
 have:=Mf (P:=P) (hp:=hp) (o:=⟨dd,.load t x,ty,ps,af,gd⟩) rfl E J Z I.lt;rwa [I.eq]at this
theorem TI(E:arg x=.d (Fb T c))(J:Tab P t d n b z)(Z:Ej d=true)(I:PartAt c 0 n vn):Quiet P hp ⟨dd,.load t x,ty,ps,af,gd⟩ arg (.d (AJ vn)):=by
 have:=JV (P:=P) (hp:=hp) (o:=⟨dd,.load t x,ty,ps,af,gd⟩) rfl E J Z (by have:=I.le;omega);rwa [<-I.eq,List.drop_zero]
theorem KC(E:arg x=.d (AJ c))(O:arg y=.d (ex (.int o ((k:Nat):Int))))(J:Tab P t (.array a n) b T z)(X:Tab P n d 1 m v)(Z:Ej d=false)(C:k<a)(I:CellAt c k r):Quiet P hp ⟨dd,.index t x y,ty,ps,af,gd⟩ arg (.d r):=by
 have:=Sk (P:=P) (hp:=hp) (o:=⟨dd,.index t x y,ty,ps,af,gd⟩) rfl E O J X Z ZbK ZbK (by have:=I.lt;omega);rw[show((k:Nat):Int).toNat=k from rfl,I.eq]at this;exact this
theorem A2J(E:arg x=.d (AJ c))(O:arg y=.d (ex (.int o ((g:Nat):Int))))(J:Tab P t (.array k n) b T z)(X:Tab P n d m a v)(Z:Ej d=true)(C:g<k)(I:PartAt c (g*m) m vn):Quiet P hp ⟨dd,.index t x y,ty,ps,af,gd⟩ arg (.d (AJ vn)):=by
 have:=A0D (P:=P) (hp:=hp) (o:=⟨dd,.index t x y,ty,ps,af,gd⟩) rfl E O J X Z ZbK ZbK I.le;rw[show((g:Nat):Int).toNat=g from rfl,I.eq]at this;exact this
theorem A03 (a b : Nat → Int) (w : World) : (do eqGuard .eql 112 x y (.agg (c8 a)) (.agg (c8 b)); binOp .eql 112 (.agg (c8 a)) (.agg (c8 b)) : Sem Value).run Tryz.prog w = .ok (.bool (JK a b)) w := by
 exact ZfS
theorem ZS (a b : Nat → Int) (w : World) : (do eqGuard .neq 112 x y (.agg (c8 a)) (.agg (c8 b)); binOp .neq 112 (.agg (c8 a)) (.agg (c8 b)) : Sem Value).run Tryz.prog w = .ok (.bool (!JK a b)) w := by
 exact ZfS
theorem Gd {a b v : Value} (K : va.op = .binOp vU t x y U) (E : arg x = .d r) (O : arg y = .d vt) (I : ∀ s u, r.rel s u → u = a) (F : ∀ s u, vt.rel s u → u = b) (C : ∀ w, (do eqGuard vU t x y a b; binOp vU t a b : Sem Value).run P w = .ok v w) : Quiet P hp va arg (.d (ex v)) := by
 refine⟨λbase s W G H l Z h=>?_⟩;have A:=h x (by rw[K];simp[Op.operands]);have B:=h y (by rw[K];simp[Op.operands]);rw[E]at A;rw[O]at B;have c:=I s _ A;have J:=F s _ B;have:=C s.w;refine BO (v:=v) ?_ ⟨GS.Le.refl s,rfl⟩;simp only[execOp,K,c,J,Sem.run_bind,this,Result.andThen_ok,Sem.run_pure]
theorem JY(E:arg x=.d (AJ (Co vd)))(O:arg y=.d (AJ (Co vw))):Quiet Tryz.prog hp ⟨dd,.binOp .eql 112 x y t,ty,ps,af,gd⟩ arg (.d (ex (.bool (JK vd vw)))):=
 Gd rfl E O (λ_ _ h=>CC h) (λ_ _ h=>CC h) λw=>A03 vd vw w
theorem JW{U:TypeId}(E:arg x=.d (AJ (Co vd)))(O:arg y=.d (AJ (Co vw))):Quiet Tryz.prog hp ⟨dd,.binOp .neq 112 x y U,ty,ps,af,gd⟩ arg (.d (ex (.bool (!JK vd vw)))):=
 Gd rfl E O (λ_ _ h=>CC h) (λ_ _ h=>CC h) λw=>ZS vd vw w
theorem Ng(E:arg x=.d (AJ (Co vd)))(O:arg y=.d (AJ (Co vw)))(h:JK vd vw=true):Quiet Tryz.prog hp ⟨dd,.binOp .eql 112 x y t,ty,ps,af,gd⟩ arg (.d (ex (.bool true))):=by
 rw[<-h];exact JY E O
theorem Nh(E:arg x=.d (AJ (Co vd)))(O:arg y=.d (AJ (Co vw)))(h:JK vd vw=false):Quiet Tryz.prog hp ⟨dd,.binOp .eql 112 x y t,ty,ps,af,gd⟩ arg (.d (ex (.bool false))):=by
 rw[<-h];exact JY E O
theorem Nd{U:TypeId}(E:arg x=.d (AJ (Co vd)))(O:arg y=.d (AJ (Co vw)))(h:JK vd vw=true):Quiet Tryz.prog hp ⟨dd,.binOp .neq 112 x y U,ty,ps,af,gd⟩ arg (.d (ex (.bool false))):=by
 exact ZgB
theorem Nc{U:TypeId}(E:arg x=.d (AJ (Co vd)))(O:arg y=.d (AJ (Co vw)))(h:JK vd vw=false):Quiet Tryz.prog hp ⟨dd,.binOp .neq 112 x y U,ty,ps,af,gd⟩ arg (.d (ex (.bool true))):=by
 exact ZgB
theorem Ni(E:arg x=.d (ex (.bool q)))(O:arg y=.d (ex (.bool uh)))(h:P.underlying t=some .bool):Quiet P hp ⟨dd,.binOp .eql t x y U,ty,ps,af,gd⟩ arg (.d (ex (.bool (q==uh)))):=
 Cz (o:=⟨dd,.binOp .eql t x y U,ty,ps,af,gd⟩) rfl E O λw=>by
  exact ZfP
theorem Kx(E:arg x=.d (ex (.bool q)))(O:arg y=.d (ex (.bool uh)))(h:P.underlying t=some .bool):Quiet P hp ⟨dd,.binOp .neq t x y U,ty,ps,af,gd⟩ arg (.d (ex (.bool (!(q==uh))))):=
 Cz (o:=⟨dd,.binOp .neq t x y U,ty,ps,af,gd⟩) rfl E O λw=>by
  exact ZfP
end
section
variable {P:Program} {s0:An} {n:Nat} {ops:Array Oper} {Q:Exit->AS->Prop} {rest:List Oper} {fr:List (Nat×AV)} {hp:List Ow} {ty:TypeId} {ps:String} {af:Array Edge}
theorem OJ{b id m off:Nat}(E:AS.arg ⟨fr,hp⟩ x=.ptr id off)(O:AS.arg ⟨fr,hp⟩ y=.d (AJ vn))(l:hp[id]? = some (.var U (c.map .d)))(J:Tab P t d m b z)(A:vn.length=m)(I:SetAt c off vn uS)(f:FK hp id (.var U (uS.map .d))=some H)
  (h:AWl P s0 n ops Q rest ⟨fr,H⟩):AWl P s0 n ops Q (⟨none,.store t x y,ty,ps,af,none⟩::rest) ⟨fr,hp⟩:=by
 refine QP (o:=⟨none,.store t x y,ty,ps,af,none⟩) rfl rfl rfl E O l J A (by rw[<-A];exact Nat.ble_eq_true_of_le I.le) ?_;rw[Ey f,<-I.eq]at h;exact h
theorem Kc{b id off:Nat}(E:AS.arg ⟨fr,hp⟩ x=.ptr id off)(O:AS.arg ⟨fr,hp⟩ y=.d r)(l:hp[id]? = some (.var U (c.map .d)))(J:Tab P t d 1 b z)(A:One hp (.d r))(I:SetAt c off [r] vn)(f:FK hp id (.var U (vn.map .d))=some H)
  (h:AWl P s0 n ops Q rest ⟨fr,H⟩):AWl P s0 n ops Q (⟨none,.store t x y,ty,ps,af,none⟩::rest) ⟨fr,hp⟩:=by
 have B:off<c.length:=I.le;refine NQ (o:=⟨none,.store t x y,ty,ps,af,none⟩) rfl rfl rfl E O l J A B ?_;have C:=I.eq
 have:Rx c off [r]=c.set off r:=by
  unfold Rx;exact ZhW
 rw[this]at C;rw[Ey f,<-C]at h;exact h
end
theorem RC:∀{G u:List Ow} {i:Nat} {x:Ow},G[i]? = some x->FK G i x=some u->u=G
 |[],_,_,_,h,_=>by cases h
 |o::l,u,0,x,h,a=>by cases h;cases a;rfl
 |o::l,u,i+1,x,h,a=>by
  unfold FK at a;split at a
  .rename_i r b
   cases a;rw[RC ZcY b]
  .cases a
theorem A36{s0:An}(id:Nat)(A:List D)(l:H[id]? = some (.var t (c.map .d)))(X:c=A)(f:FK H id (.var t (A.map .d))=some vA)(h:AWl P s0 n vY vm ve ⟨vf,vA⟩):AWl P s0 n vY vm ve ⟨vf,H⟩:=by
 subst X;rw[RC l f]at h;exact h
theorem D.le.trans{x y z:D}(h:D.le x y)(a:D.le y z):D.le x z:=λs v q=>a s v (h s v q)
theorem Bb{x y E z:D}(h:D.le x E)(a:D.le y z):D.le (EY [x,y]) (EY [E,z]):=λs v q=>by
 obtain⟨G,e,K,C⟩:=q;refine⟨G,e,K,λk F=>?_⟩;obtain⟨u,A,B⟩:=C k F
 match k,F with
 |0,_=>exact⟨u,A,h s u B⟩
 |1,_=>exact⟨u,A,a s u B⟩
 |k+2,F=>exact absurd F ZbV
theorem Kb{P Q:List Tm}(h:P=Q):D.le (BQ P) (BQ Q):=Ac (by rw[h])
theorem Nm:D.le (ex (.slice none 0 0)) (BQ []):=Bf
section
variable {P:Program} {hp:List Ow} {arg:Operand->AV} {dd:Option Tmp} {ty:TypeId} {ps:String} {af:Array Edge} {gd:Option (Nat×Bool)}
theorem OE(E:arg x=.d (wD l))(J:Tab P t (.slice n) b T z):Quiet P hp ⟨dd,.call { callee:=.builtin .len,args:=#[x],argTypes:=#[t] },ty,ps,af,gd⟩ arg (.d (ex (.int .i64 (l.length:Nat)))):=by
 refine⟨λbase s W G H I Z h=>?_⟩;have B:=h x ZcX;rw[E]at B;obtain⟨A,c,F,C⟩:=B.1;rw[List.length_map]at F;refine BO (v:=.int .i64 l.length) ?_ ⟨GS.Le.refl s,rfl⟩;simp[execOp,resolve,invoke,builtin,F,Builtin.len_,run_underlying J.und,goInt]
theorem KA{e n b r k:Nat}(F:arg x=.d (wD l))(O:arg y=.d (ex (.int o ((k:Nat):Int))))(J:Tab P t (.slice e) n b z)(X:Tab P e d 1 r v)(E:k<l.length):Quiet P hp ⟨dd,.indexAddr t x y,ty,ps,af,gd⟩ arg (.d (Fb 335 [ex (.int .u32 (l.getD k 0:Nat))])):=by
 refine⟨λbase s W K H S Z h=>?_⟩;have B:=h x ZcE;have C:=h y ZcE;rw[F]at B;rw[O]at C;have M:K y=.int o ((k:Nat):Int):=C;obtain⟨A,c,I,L,V,m⟩:=B.1;rw[List.length_map]at I m;obtain⟨g,p,rfl,N⟩:=m ZbK;have Q:=(N k E).2
 have R:(l.map λx=>[ex (.int .u32 (x:Nat))]).getD k []=[ex (.int .u32 (l.getD k 0:Nat))]:=by
  simp[List.getD_eq_getElem?_getD,E]
 rw[R]at Q;refine BO (v:=.pointer (some ⟨g,p+k*1,none⟩)) ?_ ⟨GS.Le.refl s,g,_,rfl,Q⟩;have G:k<l.length:=E;simp[execOp,I,M,Instr.indexAt,asIntOf,run_underlying J.und,G,X.run_size,Addr.add_lit]
end
theorem Ix(z:Int):Abs Tryz.prog 285 [AJ (BW z)] (ex (.bool (decide (z=1)))):=by
 refine Bw (Ag Tryz.func285 ZbM ZbM) λs G H K q=>?_;rw[Zm K];obtain⟨B,w,C,m,A,g⟩:=Dk (q 0 ZbV);rw[A];exact(A01 B w C m z _ g).mono λe N ⟨X,S⟩=>⟨_,X,S,λj W O _ _=>rfl⟩
theorem EO(z:Int):Abs Tryz.prog 235 [AJ (BW z)] (ex (.int .i64 z.sign)):=by
 refine Bw (Ag Tryz.func235 ZbM ZbM) λs G H K q=>?_;rw[Zm K];obtain⟨B,w,C,m,A,g⟩:=Dk (q 0 ZbV);rw[A];exact(A1e B w C m z _ g).mono λe N ⟨X,S⟩=>⟨_,X,S,λj W O _ _=>rfl⟩
theorem Oz(x y:Int)(i:(Aq x.natAbs).length<=4398046511104)(b:(Aq y.natAbs).length<=4398046511104):Abs Tryz.prog 290 [AJ (BW x),AJ (BW y)] (AJ (BW (Nat.gcd x.natAbs y.natAbs:Nat))):=by
 refine Bw (Ag Tryz.func290 ZbM ZbM) λs G H K q=>?_;rw[Yh K];obtain⟨I,w,L,E,F,g⟩:=Dk (q 0 ZbV);obtain⟨M,Q,J,B,c,A⟩:=Dk (q 1 ZbV);rw[F,c];exact(A3N I M w Q L E J B x y _ g A i b).mono λe N ⟨y,Y,m,k,X,C,S⟩=>⟨_,X,S,λj W O _ _=>by subst W;exact Gn O C⟩
theorem SX(x y:Int)(i:(Aq x.natAbs).length<=4398046511104)(b:(Aq y.natAbs).length<=4398046511104):Abs Tryz.prog 286 [AJ (BW x),AJ (BW y)] (AJ (BW (x*y))):=by
 refine Bw (Ag Tryz.func286 ZbM ZbM) λs G H K q=>?_;rw[Yh K];obtain⟨I,w,L,E,F,g⟩:=Dk (q 0 ZbV);obtain⟨M,Q,J,B,c,A⟩:=Dk (q 1 ZbV);rw[F,c];exact(A3D I M w Q L E J B x y _ g A i b).mono λe N ⟨y,Y,m,k,X,C,S⟩=>⟨_,X,S,λj W O _ _=>by subst W;exact Gn O C⟩
theorem MK(z:Int)(g:-9223372036854775808<=z)(A:z<=9223372036854775807):Abs Tryz.prog 139 [ex (.int .i64 z)] (AJ (BW z)):=by
 refine Bw (Ag Tryz.func139 ZbM ZbM) λs G H K q=>?_;rw[Zm K];have B:G.getD 0 undef=.int .i64 z:=q 0 ZbV;rw[B];exact(A5c z _ g A).mono λe N ⟨y,Y,m,k,X,i,S⟩=>⟨_,X,S,λj W O _ _=>by subst W;exact Gn O i⟩
theorem Qv(x y:Int)(i:(Aq x.natAbs).length<=4398046511103)(b:(Aq y.natAbs).length<=4398046511103):Abs Tryz.prog 226 [AJ (BW x),AJ (BW y)] (AJ (BW (Nat.gcd x.natAbs y.natAbs:Nat))):=by
 refine Bw (Ag Tryz.func226 ZbM ZbM) λs G H K q=>?_;rw[Yh K];obtain⟨I,w,L,E,F,g⟩:=Dk (q 0 ZbV);obtain⟨M,Q,J,B,c,A⟩:=Dk (q 1 ZbV);rw[F,c];exact(A2q I M w Q L E J B x y _ g A i b).mono λe N ⟨y,Y,m,k,X,C,S⟩=>⟨_,X,S,λj W O _ _=>by subst W;exact Gn O C⟩
theorem IV(z:Int)(g:-9223372036854775808<=z)(A:z<=9223372036854775807):Abs Tryz.prog 141 [ex (.int .i64 z)] (AJ (BW z)):=by
 refine Bw (Ag Tryz.func141 ZbM ZbM) λs G H K q=>?_;rw[Zm K];have B:G.getD 0 undef=.int .i64 z:=q 0 ZbV;rw[B];exact(A4g z _ g A).mono λe N ⟨y,Y,m,k,X,i,S⟩=>⟨_,X,S,λj W O _ _=>by subst W;exact Gn O i⟩
theorem NI(x y:Nat):Abs Tryz.prog 284 [wD (Aq x),wD (Aq y)] (ex (.int .i64 (EC x y))):=by
 refine Bw (Ag Tryz.func284 ZbM ZbM) λs G H K q=>?_;rw[Yh K];exact(HU _ _ x y _ (DK (q 0 ZbV)) (DK (q 1 ZbV))).mono λe N ⟨X,S⟩=>⟨_,X,S,λj W O _ _=>rfl⟩
theorem Gq(x y:Nat):Abs Tryz.prog 276 [wD (Aq x),wD (Aq y)] (ex (.int .i64 (EC x y))):=by
 refine Bw (Ag Tryz.func276 ZbM ZbM) λs G H K q=>?_;rw[Yh K];exact(Gp _ _ x y _ (DK (q 0 ZbV)) (DK (q 1 ZbV))).mono λe N ⟨X,S⟩=>⟨_,X,S,λj W O _ _=>rfl⟩
section
variable {P:Program} {hp:List Ow} {arg:Operand->AV} {dd:Option Tmp} {ty:TypeId} {ps:String} {af:Array Edge} {gd:Option (Nat×Bool)}
theorem QD(E:arg x=.d (ex (.int .i64 i)))(A:-9223372036854775807<=i)(B:i<=9223372036854775807):Quiet P hp ⟨dd,.unOp .neg t x,ty,ps,af,gd⟩ arg (.d (ex (.int .i64 (-i)))):=by
 refine⟨λbase s W C H l Z h=>?_⟩;have L:=h x ZcE;rw[E]at L;have c:C x=.int .i64 i:=L;have v:IntKind.i64.wrap (-i)=-i:=IntWalk.i64_in _ ZbK;exact BO (v:=.int .i64 (-i)) (by simp[execOp,c,Op.unary,Op.intArith,v]) ⟨GS.Le.refl s,rfl⟩
theorem Gf(E:arg x=.d (ex (.int o i)))(j:Tab P t d n b z)(h:Tab P U (.int .i64) T m v)(A:-9223372036854775808<=i)(B:i<=9223372036854775807):Quiet P hp ⟨dd,.convert t U x,ty,ps,af,gd⟩ arg (.d (ex (.int .i64 i))):=by
 have:=OG (hp:=hp) (dd:=dd) (ty:=ty) (ps:=ps) (af:=af) (gd:=gd) E j h;rwa [IntWalk.i64_in _ ZbK]at this
theorem Ml{T U:TypeId}(E:arg x=.d (ex (.int .i64 1)))(O:arg y=.d (ex (.int .i64 (n:Nat))))(A:(n:Int)<9223372036854775807):Quiet P hp ⟨dd,.binOp .add T x y U,ty,ps,af,gd⟩ arg (.d (ex (.int .i64 ((n+1:Nat):Int)))):=by
 have:=Nj (P:=P) (hp:=hp) (dd:=dd) (ty:=ty) (ps:=ps) (af:=af) (gd:=gd) (T:=T) (U:=U) E O ZbK ZbK;rwa [show(1:Int)+n=((n+1:Nat):Int)by omega]at this
end
section
variable {P:Program} {hp:List Ow} {arg:Operand->AV} {dd:Option Tmp} {ty:TypeId} {ps:String} {af:Array Edge} {gd:Option (Nat×Bool)}
theorem TK(E:arg x=.d (Fb g c))(O:arg y=.d (ex (.int o i)))(J:Tab P t (.array k n) b T z)(X:Tab P n d m a v)(B:0<=i)(K:i<k)(A:NG (i.toNat*m) c=some vn):Quiet P hp ⟨dd,.indexAddr t x y,ty,ps,af,gd⟩ arg (.d (Fb g vn)):=by
 rw[(LL A).1];exact Mi (o:=⟨dd,.indexAddr t x y,ty,ps,af,gd⟩) rfl E O J X B K
theorem TJ(E:arg x=.ptr g vk)(O:arg y=.d (ex (.int o i)))(J:Tab P t (.array k n) b T z)(X:Tab P n d m a v)(A:0<=i)(K:i<k):Quiet P hp ⟨dd,.indexAddr t x y,ty,ps,af,gd⟩ arg (.ptr g (vk+i.toNat*m)):=
 Mh (o:=⟨dd,.indexAddr t x y,ty,ps,af,gd⟩) rfl E O J X A K
end
def r5C(r:Nat->Int):List D:=[ex (.int .i8 (r 0)),ex (.int .i8 (r 1)),ex (.int .i8 (r 2)),ex (.int .i8 (r 3)),ex (.int .i8 (r 4))]
theorem A57(h:n<5):Dd (r5C vd) n=ex (.int .i8 (vd n)):=by
 match n,h with
 |0,_=>rfl
 |1,_=>rfl
 |2,_=>rfl
 |3,_=>rfl
 |4,_=>rfl
theorem A0M(h:n<5):CellAt ((r5C vd).drop (n*1)) 0 (ex (.int .i8 (vd n))):=by
 rw[Nat.mul_one];refine⟨by rw[List.length_drop];show 0<5-n;omega,?_⟩;rw[Hx];exact A57 h
def r5D(T:Nat)(X:List (Nat->Int)):D:=slD T 5 (X.map r5C)
def FN(X:List (Nat->Int))(k:Nat):Nat->Int:=X.getD k default
theorem UP{X:List (Nat->Int)}(h:n<X.length):FN X n∈X:=by
 unfold FN;exact Zfz
inductive AddE(e:Nat):List Oper->List Oper->Prop
 |nil:AddE e [] []
 |keep {o:Oper} {l l':List Oper} (h:AddE e l l'):AddE e (o::l) (o::l')
 |add {dd:Option Tmp} {op:Op} {ty:TypeId} {ps:String} {af:Array Edge} {gd:Option (Nat×Bool)} {l l':List Oper} (h:AddE e l l'):AddE e (⟨dd,op,ty,ps,af,gd⟩::l) (⟨dd,op,ty,ps,af.push ⟨e,.data⟩,gd⟩::l')
theorem AddE.length{e:Nat}{l l':List Oper}(h:AddE e l l'):l.length=l'.length:=by
 induction h<;>simp_all
theorem AddE.at{e:Nat}{l P:List Oper}(h:AddE e l P):∀(i:Nat) (o:Oper),l[i]? = some o->∃A,P[i]? = some A/\(A=o\/A={ o with after:=o.after.push ⟨e,.data⟩ }):=by
 induction h with
 |nil=>intro i o B;simp at B
 |keep h q=>
  intro i o B
  cases i with
  |zero=>simp at B;subst B;exact⟨_,by simp,.inl rfl⟩
  |succ i=>simpa using q i o ZdR
 |add h q=>
  intro i o B
  cases i with
  |zero=>simp at B;subst B;exact⟨_,by simp,.inr rfl⟩
  |succ i=>simpa using q i o ZdR
def PQ(e:Nat)(L G:List Oper):Bool:=
 match L[e]?,G[e]? with
 |some E,some F=>(match E.op with |.extract _ _=>true |.move _=>true |_=>false)&&E.guard.isNone&&(Bu E==Bu F) &&
  ((List.range L.length).all λi=>match L[i]?,G[i]? with
   |some o,some l=>(Bu o==Bu l)||(Bu E).all λj=>(Bu o).contains j
   |_,_=>false) &&
  ((List.range L.length).all λj=>j==e||match L[j]? with
   |some o=>(Bu o).contains e||(Bu E).contains j||E.apart L.toArray o
   |none=>false) &&
  L.all λo=>BI o.op
 |_,_=>false
theorem UU{a:Act}(C:(∃x n,va.op=.extract x n)\/∃x,va.op=.move x):(∃v,∀w,(execOp a.eval va).run P w=.ok (.value v) w)\/∀(K:Act->World->Prop) (Q:Exit->Act->World->Prop) w,¬va.wp P a w K Q:=by
 rcases C with⟨x,n,C⟩ | ⟨x,C⟩
 case inr=>exact .inl ⟨a.eval x,λw=>by simp[execOp,C]⟩
 cases E:a.eval x with
 |tuple A=>
  cases I:A[n]? with
  |some v=>exact .inl ⟨v,λw=>by simp[execOp,C,Instr.extract,E,I]⟩
  |none=>
   refine .inr λK Q w W=>?_;simp[Oper.wp,execOp,C,Instr.extract,E,I,stuck,Oper.upon]at W
 |_=>
  refine .inr λK Q w W=>?_;simp[Oper.wp,execOp,C,Instr.extract,E,stuck,Oper.upon]at W
theorem CY{L:List Oper}{listed:Array Bool}(E:listed.size=L.length)(o:L[n]? = some va):n∈Region.ready .any L.toArray listed↔listed.getD n false=false/\∀k∈Bu va,listed.getD k false=true:=by
 have Q:n<listed.size:=by rw[E];exact(List.getElem?_eq_some_iff.1 o).1
 rw[mem_ready];have e:listed.getD n true=listed.getD n false:=by simp[Q]
 rw[e];refine and_congr_right λ_=>⟨λ⟨l,A,B⟩ k C=>?_,λh=>⟨va,by simpa using o,λe X F=>h _ (Kk X F)⟩⟩;obtain rfl:l=va:=by rw[List.getElem?_toArray,o]at A;exact(Option.some.inj A).symm
 obtain⟨e,X,F,rfl⟩:=Iy C;exact B e X F
theorem A05(h:b∈Bu va):b∈Bu { va with after:=va.after.push ⟨n,.data⟩ }:=by
 obtain⟨x,E,F,rfl⟩:=Iy h;exact Kk (by simp[E]) F
theorem RV(h:b∈Bu { va with after:=va.after.push ⟨n,.data⟩ }):b∈Bu va\/b=n:=by
 obtain⟨x,E,F,rfl⟩:=Iy h;rcases Array.mem_push.1 E with E | rfl
 .exact .inl (Kk E F)
 .exact .inr rfl
theorem Jl{Q:Exit->Act->World->Prop}(T:AddE n ve uE)(G:PQ n ve uE=true)(hQ:∀c a w,¬Q (.panic c) a w)(xo:¬LetsOut Q):∀(f:Nat) (W:Array Bool) (a:Act) (w:World),W.size=ve.length ->
  (∀j o,ve[j]? = some o->W.getD j false=true->∀k∈Bu o,W.getD k false=true) ->
  wpAny P .any uE.toArray Q f W a w->wpAny P .any ve.toArray Q f W a w:=by
 obtain⟨oe,xv,X,xf,xj,xd,xp,xl,xD,xE⟩:∃oe xv,ve[n]? = some oe/\uE[n]? = some xv/\((∃x A,oe.op=.extract x A)\/∃x,oe.op=.move x)/\oe.guard=none/\Bu oe=Bu xv/\(∀i o l,ve[i]? = some o->uE[i]? = some l->Bu o=Bu l\/∀j∈Bu oe,j∈Bu o)/\(∀j o,ve[j]? = some o->j=n\/n∈Bu o\/j∈Bu oe\/oe.apart ve.toArray o=true)/\∀o∈ve,BI o.op=true:=by
  unfold PQ at G;split at G
  .rename_i oe xv X xf
   simp only[Bool.and_eq_true]at G;obtain⟨⟨⟨⟨⟨B,C⟩,L⟩,V⟩,m⟩,z⟩:=G;refine⟨oe,xv,X,xf,?_,by simpa using C,by simpa using L,λi o l R y=>?_,λj o R=>?_,λo R=>List.all_eq_true.1 z o R⟩
   .split at B
    .exact .inl ⟨_,_,by assumption⟩
    .exact .inr ⟨_,by assumption⟩
    .cases B
   .have:=List.all_eq_true.1 V i (List.mem_range.2 (List.getElem?_eq_some_iff.1 R).1)
    rw[R,y]at this;exact Ziz
   .have:=List.all_eq_true.1 m j (List.mem_range.2 (List.getElem?_eq_some_iff.1 R).1)
    rw[R]at this;simp only[Bool.or_eq_true,beq_iff_eq]at this;simp only[List.contains_iff_mem]at this;rcases this with h | (h | h) | h
    .exact .inl h
    .exact .inr (.inl h)
    .exact .inr (.inr (.inl h))
    .exact .inr (.inr (.inr h))
  .cases G
 have S:=xj;have p:=T.length;have xq:n<ve.length:=(List.getElem?_eq_some_iff.1 X).1
 have xk:∀(j:Nat) (o:Oper) J b,ve.toArray[j]? = some o->o.op≠.select J b:=λj o J b R h=>by
  have:=xE o (List.mem_of_getElem? (i:=j) ZeH);rw[h]at this;cases this
 intro f
 induction f with
 |zero=>
  intro W a w g xa h;refine⟨?_,h.2⟩;have B:=h.1;refine List.eq_nil_iff_forall_not_mem.2 λi M=>?_;obtain⟨_,o,R,_⟩:=mem_ready.1 M;have R:ve[i]? = some o:=by simpa using R
  obtain⟨l,y,xt⟩:=T.at i o R;have xr:=(CY g R).1 M;by_cases N:i∈Region.ready .any uE.toArray W
  .rw [B]at N;cases N
  .have xh:n∈Region.ready .any uE.toArray W:=by
    rw[CY (by rw[g,p]) y]at N;rw[CY (by rw[g,p]) xf,<-xp];rcases xl i o l R y with h | h
    .exact absurd ⟨xr.1,by rw[<-h];exact xr.2⟩ N
    .refine ⟨?_,λk E=>xr.2 k (h k E)⟩
     cases Y:W.getD n false with
     |false=>rfl
     |true=>
      refine absurd ⟨xr.1,λk E=>?_⟩ N;rcases xt with rfl | rfl
      .exact xr.2 k E
      .rcases RV E with E | rfl
       .exact xr.2 k E
       .exact Y
   rw[B]at xh;cases xh
 |succ f s=>
  intro W a w g xa h;by_cases xn:n∈Region.ready .any ve.toArray W
  .have xB:=(CY g X).1 xn
   have xG:n∈Region.ready .any uE.toArray W:=(CY (by rw[g,p]) xf).2 ⟨xB.1,by rw[<-xp];exact xB.2⟩;have B:=h.2 n xG;obtain⟨xw,xg,xt⟩:=T.at n oe X;obtain rfl:xw=xv:=Option.some.inj (xg.symm.trans xf);have xu:execOp a.eval xw=execOp a.eval oe:=by rcases xt with rfl | rfl<;>rfl
   have Z:xw.guard=none:=by rcases xt with rfl | rfl<;>exact xd
   have xm:xw.dst=oe.dst:=by rcases xt with rfl | rfl<;>rfl
   unfold wpOp at B;rw[show uE.toArray[n]? = some xw by simpa using xf]at B;simp only[Region.wanted,Z,if_true]at B;have B:xw.wp P a w (wpAny P .any uE.toArray Q f (W.setIfInBounds n true)) Q:=B.elim id λh=>absurd h.2 xo;rcases UU (P:=P) (a:=a) S with⟨v,q⟩ | xi
   .have C:wpAny P .any uE.toArray Q f (W.setIfInBounds n true) (a.put oe.dst v) w:=by
     unfold Oper.wp at B;rw[xu,q w,Oper.upon_value,xm]at B;exact B
    refine wpAny_first (v:=v) (show ve.toArray[n]? = some oe by simpa using X) xk (λc a w h=>absurd h (hQ c _ w)) f W a w (λj U e u xb xi=>?_) xn (.inl ⟨by simp[Region.wanted,xd],q⟩) (s _ _ _ (by simpa using g) (λj o R K k E=>?_) C)
    .have e:ve[j]? = some U:=by simpa using e
     rcases xD j U e with h | h | h | h
     .exact absurd h u
     .obtain ⟨x,F,xx,xH⟩:=Iy h
      exact absurd xH (xi x F xx)
     .have:=xB.2 j h
      have I:j<W.size:=by rw[g];exact(List.getElem?_eq_some_iff.1 e).1
      simp[I]at this xb;rw[this]at xb;cases xb
     .exact h
    .by_cases xA:j=n
     .subst xA
      obtain rfl:o=oe:=Option.some.inj (R.symm.trans X);exact getD_set_true (xB.2 k E)
     .rw [getD_set_ne false (λh=>xA h.symm)]at K
      exact getD_set_true (xa j o R K k E)
   .exfalso
    refine xi (wpAny P .any uE.toArray Q f (W.setIfInBounds n true)) Q w ?_;unfold Oper.wp at B ⊢;rw[xu]at B
    have:∀(r:Result Next),xw.upon P a (wpAny P .any uE.toArray Q f (W.setIfInBounds n true)) Q r=oe.upon P a (wpAny P .any uE.toArray Q f (W.setIfInBounds n true)) Q r:=λr=>by
     rcases xt with rfl | rfl<;>rfl
    rwa [this]at B
  .have xy:∀i,i∈Region.ready .any ve.toArray W↔i∈Region.ready .any uE.toArray W:=λi=>by
    by_cases xe:i<ve.length
    .have R:ve[i]? = some ve[i]:=List.getElem?_eq_getElem xe
     obtain⟨l,y,xt⟩:=T.at i _ R;rw[CY g R,CY (by rw[g,p]) y];refine and_congr_right λxb=>⟨λh k E=>?_,λh k E=>?_⟩
     .rcases xl i _ l R y with d | d
      .exact h k (by rw[d];exact E)
      .rcases xt with rfl | rfl
       .exact h k E
       .rcases RV E with E | rfl
        .exact h k E
        .cases Y:W.getD k false with
         |true=>rfl
         |false=>exact absurd ((CY g X).2 ⟨Y,λj e=>h j (d j e)⟩) xn
     .rcases xt with rfl | rfl
      .exact h k E
      .exact h k (A05 E)
    .constructor
     .intro h
      obtain⟨_,o,R,_⟩:=mem_ready.1 h;have:=(Array.getElem?_eq_some_iff.1 R).1;simp at this;exact absurd this xe
     .intro h
      obtain⟨_,o,R,_⟩:=mem_ready.1 h;have:=(Array.getElem?_eq_some_iff.1 R).1;simp at this;exact absurd ZbK xe
   refine⟨λO=>h.1 (List.eq_nil_iff_forall_not_mem.2 λi M=>?_),λi M=>?_⟩
   .have:=(xy i).2 M
    rw[O]at this;cases this
   .have B:=h.2 i ((xy i).1 M)
    obtain⟨_,o,R,_⟩:=mem_ready.1 M;have R:ve[i]? = some o:=by simpa using R
    obtain⟨l,y,xt⟩:=T.at i o R;have xr:=(CY g R).1 M
    have xC:∀t,yielded uE.toArray t=yielded ve.toArray t:=λt=>by
     funext j;unfold yielded;simp only[List.getElem?_toArray]
     cases e:ve[j]? with
     |none=>
      have:uE[j]? = none:=by rw[List.getElem?_eq_none_iff]at e ⊢;omega
      rw[this]
     |some U=>
      obtain⟨xI,xs,xz⟩:=T.at j U e;rw[xs];rcases xz with rfl | rfl<;>rfl
    have xF:∀j o,ve[j]? = some o->(W.setIfInBounds i true).getD j false=true->∀k∈Bu o,(W.setIfInBounds i true).getD k false=true:=λj U H K k E=>by
     by_cases xc:j=i
     .subst xc
      obtain rfl:U=o:=Option.some.inj (H.symm.trans R);exact getD_set_true (xr.2 k E)
     .rw [getD_set_ne false (λh=>xc h.symm)]at K
      exact getD_set_true (xa j U H K k E)
    refine wpOp_mono (λa w h=>s _ a w (by simpa using g) xF h) ?_;unfold wpOp at B ⊢;rw[show uE.toArray[i]? = some l by simpa using y]at B;rw[show ve.toArray[i]? = some o by simpa using R];rw[xC]at B;rcases xt with rfl | rfl
    .exact B
    .exact B
structure OnlyN(Q:Exit->AS->Prop)(e:Exit)(σ:AS):Prop where
 how:e=.normal
 run:Q .normal σ
theorem OnlyN.mk'(h:vm .normal vc):OnlyN vm .normal vc:=⟨rfl,h⟩
theorem TR{s0:An}{e:Nat}(t:P.follows .mixedOrders=true)(T:AddE e ve uE)(F:PQ e ve uE=true):DrawOk P s0 n b ve.toArray uE vm (OnlyN vm):=⟨λa w h=>by
 have B:∀j,(Array.replicate ve.toArray.size false).getD j false=false:=λj=>by
  rcases Nat.lt_or_ge j ve.length with h | h
  .simp [h]
  .simp [h]
 have f:uE.toArray.size=ve.toArray.size:=by simp[T.length]
 rw[f]at h;have G:∀c a w,¬FE s0 n (OnlyN vm) (.panic c) a w:=λc a w ⟨d,h,_⟩=>Zie
 have K:¬LetsOut (FE s0 n (OnlyN vm)):=λ⟨a,w,d,h,_⟩=>Zie
 have A:=Jl T F G K _ _ _ _ ZbV (λj o _ K=>by rw[B]at K;cases K) h
 exact wp_mono (wp_region_any t A) λex Q N ⟨d,h,f⟩=>by
  obtain⟨rfl,h⟩:=h;exact⟨d,h,f⟩⟩
section
variable {P:Program} {hp:List Ow} {arg:Operand->AV} {dd:Option Tmp} {ty:TypeId} {ps:String} {af:Array Edge} {gd:Option (Nat×Bool)}
theorem Bk{r:AV}(E:arg x=r:=by first | exact ao rfl | exact ah rfl):Quiet P hp ⟨dd,.move x,ty,ps,af,gd⟩ arg r:=AZ E
theorem A6o(E:arg x=h:=by first | exact ao rfl | exact ah rfl):Quiet P hp ⟨dd,.assign x,ty,ps,af,gd⟩ arg h:=Dm E
theorem Bd{n b T id off:Nat}{R r:List D}(E:arg x=.ptr id off:=by first | exact ao rfl | exact ah rfl)(l:hp[id]? = some (.var T (R.map .d)):=by exact rfl)(J:Tab P t d n b z:=by exact(Aa rfl))(Z:Ej d=true:=by exact rfl)(A:A1b off n R=some r:=by exact rfl):Quiet P hp ⟨dd,.load t x,ty,ps,af,gd⟩ arg (.d (AJ r)):=Nf E l J Z A
theorem AL{n b T id off:Nat}(E:arg x=.ptr id off:=by first | exact ao rfl | exact ah rfl)(l:hp[id]? = some (.var T (c.map .d)):=by exact rfl)(J:Tab P t d n b z:=by exact(Aa rfl))(Z:Ej d=false:=by exact rfl)(A:atO off c=some r:=by exact rfl):Quiet P hp ⟨dd,.load t x,ty,ps,af,gd⟩ arg (.d r):=GW E l J Z A
theorem BT{n b T id off:Nat}{r:AV}(E:arg x=.ptr id off:=by first | exact ao rfl | exact ah rfl)(l:hp[id]? = some (.var T u):=by exact rfl)(J:Tab P t d n b z:=by exact(Aa rfl))(Z:Ej d=false:=by exact rfl)(I:u[off]? = some r:=by exact rfl):Quiet P hp ⟨dd,.load t x,ty,ps,af,gd⟩ arg r:=ID E l J Z I
theorem Cp{ds:List D}(E:arg x=.d (Fb T ds):=by first | exact ao rfl | exact ah rfl)(J:Tab P t d n b z:=by exact(Aa rfl))(Z:Ej d=true:=by exact rfl)(i:ds.length=n:=by exact rfl):Quiet P hp ⟨dd,.load t x,ty,ps,af,gd⟩ arg (.d (AJ ds)):=Ky E J Z i
theorem Xt{R r:List D}(E:arg x=.d (Fb T R):=by first | exact ao rfl | exact ah rfl)(J:Tab P t d n b z:=by exact(Aa rfl))(Z:Ej d=true:=by exact rfl)(A:Ns n R=some r:=by exact rfl):Quiet P hp ⟨dd,.load t x,ty,ps,af,gd⟩ arg (.d (AJ r)):=QE E J Z A
theorem AO{ds:List D}(E:arg x=.d (Fb T ds):=by first | exact ao rfl | exact ah rfl)(J:Tab P t d n b z:=by exact(Aa rfl))(Z:Ej d=false:=by exact rfl)(A:atO 0 ds=some r:=by exact rfl):Quiet P hp ⟨dd,.load t x,ty,ps,af,gd⟩ arg (.d r):=Gr E J Z A
theorem AP{f n b Y B T:Nat}{ds r:List D}(E:arg x=.d (Fb T ds):=by first | exact ao rfl | exact ah rfl)(j:Tab P t (.struct vS) n b z:=by exact(Aa rfl))(p:vS[f]? = some vW:=by exact rfl)(X:Tab P vW.type d Y B v:=by exact(Aa rfl))(i:Nat.beq Y 0=false:=by exact rfl)(A:NG vW.offset ds=some r:=by exact rfl):Quiet P hp ⟨dd,.fieldAddr t x f,ty,ps,af,gd⟩ arg (.d (Fb T r)):=OF E j p X i A
theorem AF{f n b Y r id off:Nat}(E:arg x=.ptr id off:=by first | exact ao rfl | exact ah rfl)(j:Tab P t (.struct vS) n b z:=by exact(Aa rfl))(p:vS[f]? = some vW:=by exact rfl)(X:Tab P vW.type d Y r v:=by exact(Aa rfl))(i:Nat.beq Y 0=false:=by exact rfl):Quiet P hp ⟨dd,.fieldAddr t x f,ty,ps,af,gd⟩ arg (.ptr id (off+vW.offset)):=GX E j p X i
theorem A0z{A n b Y r T k:Nat}{a:e}(E:GG hp (arg x)=some (slD T k ((a::vu).map vF)):=by exact rfl)(O:arg y=.d (ex (.int o 0)):=by first | exact ao rfl | exact ah rfl)(J:Tab P t (.slice A) n b z:=by exact(Aa rfl))(X:Tab P A d Y r v:=by exact(Aa rfl))(B:Y=k:=by exact rfl):Quiet P hp ⟨dd,.indexAddr t x y,ty,ps,af,gd⟩ arg (.d (Fb T (vF a))):=KB E O J X B
theorem Dv[Inhabited e](E:GG hp (arg x)=some (slD k g (vu.map vF)):=by exact rfl)(O:arg y=.d (ex (.int o (vk:Nat))):=by first | exact ao rfl | exact ah rfl)(J:Tab P t (.slice n) b T z:=by exact(Aa rfl))(X:Tab P n d m a v:=by exact(Aa rfl))(A:m=g:=by exact rfl)(C:vk<vu.length:=by first | omega | (simp;omega)):Quiet P hp ⟨dd,.indexAddr t x y,ty,ps,af,gd⟩ arg (.d (Fb k (vF (vu.getD vk default)))):=Ck E O J X A C
theorem Qw(E:arg x=.ptr g vk:=by first | exact ao rfl | exact ah rfl)(O:arg y=.d (ex (.int o ((ui:Nat):Int))):=by first | exact ao rfl | exact ah rfl)(J:Tab P t (.array k n) b T z:=by exact(Aa rfl))(X:Tab P n d m a v:=by exact(Aa rfl))(C:ui<k:=by first | omega | (simp;omega)):Quiet P hp ⟨dd,.indexAddr t x y,ty,ps,af,gd⟩ arg (.ptr g (vk+ui*m)):=Lp E O J X C
theorem A5S{e n b Y r len T k:Nat}(E:arg x=.d (Fb T c):=by first | exact ao rfl | exact ah rfl)(O:arg y=.d (ex (.int o ((k:Nat):Int))):=by first | exact ao rfl | exact ah rfl)(J:Tab P t (.array len e) n b z:=by exact(Aa rfl))(X:Tab P e d Y r v:=by exact(Aa rfl))(C:k<len:=by first | omega | (simp;omega)):Quiet P hp ⟨dd,.indexAddr t x y,ty,ps,af,gd⟩ arg (.d (Fb T (c.drop (k*Y)))):=JX E O J X C
theorem Md(E:GG hp (arg x)=some (slD k g (vu.map vF)):=by exact rfl)(O:arg y=.d (ex (.int .i64 (vk:Nat))):=by first | exact ao rfl | exact ah rfl)(J:Tab P t (.slice n) b T z:=by exact(Aa rfl))(X:Tab P n d m a v:=by exact(Aa rfl))(A:m=g:=by exact rfl)(M:vk<=vu.length:=by first | omega | (simp;omega)):Quiet P hp ⟨dd,.slice t x (some y) none none,ty,ps,af,gd⟩ arg (.d (slD k g ((vu.drop vk).map vF))):=Mq E O J X A M
theorem Cb{A n b T k:Nat}(E:GG hp (arg x)=some (slD T k (vu.map vF)):=by exact rfl)(J:Tab P t (.slice A) n b z:=by exact(Aa rfl)):Quiet P hp ⟨dd,.call { callee:=.builtin .len,args:=#[x],argTypes:=#[t] },ty,ps,af,gd⟩ arg (.d (ex (.int .i64 (vu.length:Nat)))):=Bi E J
theorem OB{e n b:Nat}(E:arg x=.d (wD l):=by first | exact ao rfl | exact ah rfl)(J:Tab P t (.slice e) n b z:=by exact(Aa rfl)):Quiet P hp ⟨dd,.call { callee:=.builtin .len,args:=#[x],argTypes:=#[t] },ty,ps,af,gd⟩ arg (.d (ex (.int .i64 (l.length:Nat)))):=OE E J
theorem Dl(E:arg x=.d (ex (.int .i64 (n:Nat))):=by first | exact ao rfl | exact ah rfl)(O:arg y=.d (ex (.int .i64 1)):=by first | exact ao rfl | exact ah rfl)(A:(n:Int)<9223372036854775807:=by omega):Quiet P hp ⟨dd,.binOp .add t x y U,ty,ps,af,gd⟩ arg (.d (ex (.int .i64 ((n+1:Nat):Int)))):=Kt E O A
theorem Tw{a b:Int}(E:arg x=.d (ex (.int .i64 a)):=by first | exact ao rfl | exact ah rfl)(O:arg y=.d (ex (.int .i64 b)):=by first | exact ao rfl | exact ah rfl)(A:-9223372036854775808<=a+b:=by omega)(B:a+b<=9223372036854775807:=by omega):Quiet P hp ⟨dd,.binOp .add t x y U,ty,ps,af,gd⟩ arg (.d (ex (.int .i64 (a+b)))):=Nj E O A B
theorem A5R(E:arg x=.d (ex (.int .i64 i)):=by first | exact ao rfl | exact ah rfl)(O:arg y=.d (ex (.int .i64 j)):=by first | exact ao rfl | exact ah rfl)(A:-9223372036854775808<=i-j:=by omega)(B:i-j<=9223372036854775807:=by omega):Quiet P hp ⟨dd,.binOp .sub t x y U,ty,ps,af,gd⟩ arg (.d (ex (.int .i64 (i-j)))):=Nb E O A B
theorem A2A(E:arg x=.d (ex (.int o i)):=by first | exact ao rfl | exact ah rfl)(O:arg y=.d (ex (.int o j)):=by first | exact ao rfl | exact ah rfl)(g:0<=i:=by omega)(F:0<j:=by omega):Quiet P hp ⟨dd,.binOp .rem t x y U,ty,ps,af,gd⟩ arg (.d (ex (.int o (i%j)))):=QA E O g F
theorem Bj{k:IntKind}{a b:Int}(F:RM vU=true:=by exact rfl)(E:arg x=.d (ex (.int k a)):=by first | exact ao rfl | exact ah rfl)(O:arg y=.d (ex (.int k b)):=by first | exact ao rfl | exact ah rfl)(I:Cx vU a b:=by first | (simp only[Cx,List.length_cons,List.length_nil];omega) | (simp[Cx];done) | (simp[Cx];omega)):Quiet P hp ⟨dd,.binOp vU t x y U,ty,ps,af,gd⟩ arg (.d (ex (.bool true))):=FH F E O I
theorem Bl{k:IntKind}(F:RM vU=true:=by exact rfl)(E:arg x=.d (ex (.int k i)):=by first | exact ao rfl | exact ah rfl)(O:arg y=.d (ex (.int k j)):=by first | exact ao rfl | exact ah rfl)(I:¬Cx vU i j:=by first | (simp only[Cx,List.length_cons,List.length_nil];omega) | (simp[Cx];done) | (simp[Cx];omega)):Quiet P hp ⟨dd,.binOp vU t x y U,ty,ps,af,gd⟩ arg (.d (ex (.bool false))):=GY F E O I
theorem Ch{k:IntKind}{a b:Int}(E:arg x=.d (ex (.int k a)):=by first | exact ao rfl | exact ah rfl)(O:arg y=.d (ex (.int k b)):=by first | exact ao rfl | exact ah rfl)(I:Vg vU a b=some q:=by exact rfl):Quiet P hp ⟨dd,.binOp vU t x y U,ty,ps,af,gd⟩ arg (.d (ex (.bool q))):=TL E O I
theorem A0y(E:arg x=.d (ex (.bool q)):=by first | exact ao rfl | exact ah rfl)(O:arg y=.d (ex (.bool uh)):=by first | exact ao rfl | exact ah rfl)(h:P.underlying t=some .bool:=by kernel_rfl):Quiet P hp ⟨dd,.binOp .neq t x y U,ty,ps,af,gd⟩ arg (.d (ex (.bool (!(q==uh))))):=Kx E O h
theorem JU(E:arg x=.d (ex (.bool q)):=by first | exact ao rfl | exact ah rfl):Quiet P hp ⟨dd,.unOp .not t x,ty,ps,af,gd⟩ arg (.d (ex (.bool (!q)))):=TG E
theorem Xs(E:arg x=.d (ex (.int .i64 i)):=by first | exact ao rfl | exact ah rfl)(A:-9223372036854775807<=i:=by omega)(B:i<=9223372036854775807:=by omega):Quiet P hp ⟨dd,.unOp .neg t x,ty,ps,af,gd⟩ arg (.d (ex (.int .i64 (-i)))):=QD E A B
theorem Fg(E:arg y=h:=by first | exact ao rfl | exact ah rfl)(I:arg x=.d (ex (.bool true)):=by first | exact ao rfl | exact ah rfl):Quiet P hp ⟨dd,.pick x y vN,ty,ps,af,gd⟩ arg h:=GC E I
theorem Di(O:arg vN=h:=by first | exact ao rfl | exact ah rfl)(I:arg x=.d (ex (.bool false)):=by first | exact ao rfl | exact ah rfl):Quiet P hp ⟨dd,.pick x y vN,ty,ps,af,gd⟩ arg h:=IC O I
theorem Bs{ds:List D}(I:Abs P vb ds r)(p:arg x=.d (ex (.func (.func vb) #[] #[])):=by first | exact ao rfl | exact ah rfl)(s:ArgsLe hp arg vJ ds:=by repeat (first | exact ArgsLe.nil | refine ArgsLe.cons rfl (D.le.refl _) ?_ | refine ArgsLe.cons rfl Bf ?_)):Quiet P hp ⟨dd,.call { callee:=.value x,args:=vJ.toArray,argTypes:=vr },ty,ps,af,gd⟩ arg (.d r):=EX p I s
end
section
variable {P:Program} {s0:An} {n:Nat} {ops:Array Oper} {Q:Exit->AS->Prop} {rest:List Oper} {fr:List (Nat×AV)} {hp:List Ow} {ty:TypeId} {ps:String} {af:Array Edge} {d:Nat} {op:Op} {r:AV}
theorem Wq(w:Quiet P hp ⟨some d,op,ty,ps,af,none⟩ (AS.arg ⟨fr,hp⟩) r)(h:AWl P s0 n ops Q rest ⟨(d,r)::fr,hp⟩)(f:BI op=true:=by exact rfl)(Z:Nat.blt d n=true:=by exact rfl):AWl P s0 n ops Q (⟨some d,op,ty,ps,af,none⟩::rest) ⟨fr,hp⟩:=CU f Z ⟨r,w,h⟩
theorem Wg{j:Nat}(w:Quiet P hp ⟨some d,op,ty,ps,af,some (j,q)⟩ (AS.arg ⟨fr,hp⟩) r)(h:AWl P s0 n ops Q rest ⟨(d,r)::fr,hp⟩)(O:(ops[j]?).bind (·.dst)=some b:=by exact rfl)(K:BV fr b=some (.d (ex (.bool q))):=by exact rfl)(T:Nat.blt b n=true:=by exact rfl)(f:BI op=true:=by exact rfl)(Z:Nat.blt d n=true:=by exact rfl):AWl P s0 n ops Q (⟨some d,op,ty,ps,af,some (j,q)⟩::rest) ⟨fr,hp⟩:=No O K T f Z ⟨r,w,h⟩
theorem Ws{j:Nat}(h:AWl P s0 n ops Q rest ⟨(d,.d (ex undef))::fr,hp⟩)(O:(ops[j]?).bind (·.dst)=some b:=by exact rfl)(K:BV fr b=some (.d (ex z)):=by exact rfl)(A:isB z q=false:=by exact rfl)(T:Nat.blt b n=true:=by exact rfl)(Z:Nat.blt d n=true:=by exact rfl):AWl P s0 n ops Q (⟨some d,op,ty,ps,af,some (j,q)⟩::rest) ⟨fr,hp⟩:=QO O K A T Z h
end
section
variable {P:Program} {σ:AS} {K:List HR->Prop} {acc acc':List HR} {o:Oper} {L:List Oper} {e:List (Nat×Nat)} {es:List (List (Nat×Nat))} {r:AV}
theorem Xq(w:Quiet P σ.hp o (Eu σ acc e) r)(h:HS P σ K acc' L es)(I:o.guard=none:=by exact rfl)(s:Ry acc (.av r)=some acc':=by exact rfl):HS P σ K acc (o::L) (e::es):=⟨_,HStep.q I w,_,s,h⟩
theorem Xg(w:Quiet P σ.hp o (Eu σ acc e) r)(h:HS P σ K acc' L es)(I:o.guard=some (n,q):=by exact rfl)(A:acc[n]? = some (.av (.d (ex (.bool q)))):=by exact rfl)(s:Ry acc (.av r)=some acc':=by exact rfl):HS P σ K acc (o::L) (e::es):=⟨_,AK I A w,_,s,h⟩
theorem HqG{R:HR->Prop}(I:o.guard=some (n,q))(C:acc[n]? = some (.av (.d (ex (.bool q)))))(h:∃r,Quiet P σ.hp o (Eu σ acc e) r/\R (.av r)):∃r,HStep P σ acc e o r/\R r:=let⟨r,A,B⟩:=h;⟨_,AK I C A,B⟩
end
end Go.Proofs.YtcikkglcoeedlaaGreat
set_option linter.unusedSimpArgs false
set_option linter.unusedVariables false
namespace Go.Proofs.YtcikkglcoeedlaaGreat
open Go.RowKit
section
variable {P:Program} {s0:An} {n:Nat} {ops:Array Oper} {Q:Exit->AS->Prop} {σ:AS}
variable{ur:AS->Prop}
theorem Yn(h:ur σ):AThen ur Q .normal σ:=Je h
theorem Y0(h:ur σ):AWl P s0 n ops (AThen ur Q) [] σ:=AWl.nil (Je h)
variable{vp:Code}
theorem Y1{i:Nat}{l:List Oper}(h:AWl P s0 n l.toArray (AThen (AWp P s0 n vp Q) Q) l σ):AWp P s0 n (.seq (.region i l.toArray false) vp) Q σ:=Ao (AWp.region h)
theorem Ys(h:ur σ):AWp P s0 n .skip (AThen ur Q) σ:=HG (Je h)
end
variable{vc:AS}{h:AV}{r:D}{vK:Func}{n:Nat}{P:Program}
theorem Yf(b:vK.results=#[.tmp n]:=by exact rfl)(A:BV vc.fr n=some h:=by exact rfl)(E:GG vc.hp h=some r:=by exact rfl):Fin P vK r .ret vc:=Ak (by rw[b];exact Ah (ResV.tmp A E) (D.le.refl _))
variable{vb:FuncId}
theorem Ab {c : Code} {ds : List D} (p : P.funcs[vb]? = some vK) (h : ∀ C, AWp P C vK.ntmps c (Fin P vK r) ⟨params 0 ds, []⟩) (F : vK.body = some c := by exact rfl) (A : (vK.name == "runtime.NumGoroutine") = false := by kernel_rfl) (B : vK.body.isNone = false := by kernel_rfl) (i : Nat.ble ds.length vK.ntmps = true := by exact rfl) : Abs P vb ds r := Abs.intro p F (Ag p A B) i h
section
variable {P:Program} {s0:An} {n:Nat} {ops:Array Oper} {Q:Exit->AS->Prop} {fr:List (Nat×AV)} {hp hp':List Ow} {rest:List Oper} {ty:TypeId} {ps:String} {af:Array Edge} {d:Nat} {x:Operand} {r:AV}
theorem Wm(h:AWl P s0 n ops Q rest ⟨(d,r)::fr,hp⟩)(E:AS.arg ⟨fr,hp⟩ x=r:=by exact ao rfl)(Z:Nat.blt d n=true:=by exact rfl):AWl P s0 n ops Q (⟨some d,.move x,ty,ps,af,none⟩::rest) ⟨fr,hp⟩:=Wq (AZ E) h rfl Z
theorem Wa(h:AWl P s0 n ops Q rest ⟨(d,r)::fr,hp⟩)(E:AS.arg ⟨fr,hp⟩ x=r:=by exact ao rfl)(Z:Nat.blt d n=true:=by exact rfl):AWl P s0 n ops Q (⟨some d,.assign x,ty,ps,af,none⟩::rest) ⟨fr,hp⟩:=Wq (Dm E) h rfl Z
variable{vp ua:Code}
theorem Ct(h:AWp P s0 n vp Q ⟨fr,hp⟩)(E:AS.arg ⟨fr,hp⟩ x=.d (ex (.bool true)):=by exact ao rfl):AWp P s0 n (.cond x vp ua) Q ⟨fr,hp⟩:=Nq E h
theorem Cf(h:AWp P s0 n ua Q ⟨fr,hp⟩)(E:AS.arg ⟨fr,hp⟩ x=.d (ex (.bool false)):=by exact ao rfl):AWp P s0 n (.cond x vp ua) Q ⟨fr,hp⟩:=Nr E h
variable{u:List AV}{z:Value}
theorem Sf{T B:TypeId}{t:TypeDesc}{b id m:Nat}{y:Operand}{ds:List D}(h:AWl Tryz.prog s0 n ops Q rest ⟨fr,hp'⟩)(E:AS.arg ⟨fr,hp⟩ x=.ptr id 0:=by exact ao rfl)(O:AS.arg ⟨fr,hp⟩ y=.d (AJ ds):=by exact ao rfl)(l:hp[id]? = some (.var B u):=by exact rfl)(J:Tab Tryz.prog T t m b z:=by exact Aa rfl)(A:ds.length=m:=by exact rfl)(C:u.length=m:=by exact rfl)(f:FK hp id (.var B (ds.map .d))=some hp':=by exact rfl):AWl Tryz.prog s0 n ops Q (⟨none,.store T x y,ty,ps,af,none⟩::rest) ⟨fr,hp⟩:=A4t E O l J A C f h
variable{c:List D}{d:TypeDesc}{t:TypeId}
theorem Al{m b k A:Nat}(h:AWl Tryz.prog s0 n ops Q rest ⟨(A,.ptr k 0)::fr,hp'⟩)(J:Tab Tryz.prog t d m b z:=by exact Aa rfl)(E:Nat.beq t 335=false:=by exact rfl)(B:GP z.cells.toList=true:=by exact rfl)(Z:Nat.blt A n=true:=by exact rfl)(I:exO z.cells.toList=some c:=by exact rfl)(C:Ht hp=some k:=by exact rfl)(f:Fy hp (.var t (c.map .d))=some hp':=by exact rfl):AWl Tryz.prog s0 n ops Q (⟨some A,.alloc t,ty,ps,af,none⟩::rest) ⟨fr,hp⟩:=A6c J E B Z I C f h
theorem Bx{ds:List D}{k A:Nat}(h:AWl P s0 n ops Q rest ⟨(A,.ptr k 0)::fr,hp'⟩)(E:AS.arg ⟨fr,hp⟩ x=.d (AJ ds):=by exact ao rfl)(B:Nat.beq t 335=false:=by exact rfl)(Z:Nat.blt A n=true:=by exact rfl)(C:Ht hp=some k:=by exact rfl)(f:Fy hp (.var t (ds.map .d))=some hp':=by exact rfl):AWl P s0 n ops Q (⟨some A,.box t x,ty,ps,af,none⟩::rest) ⟨fr,hp⟩:=A6b E B Z C f h
variable{vl uf:List (List D)}{vf:List (Nat×AV)}{x y:Operand}{v:Value}
theorem Ap{t T C k bytes id m b e:Nat}(h:AWl Tryz.prog s0 n ops Q rest ⟨(e,.own id)::vf,hp'⟩)(E:AS.arg ⟨fr,hp⟩ x=.own id:=by exact ao rfl)(O:GG hp (AS.arg ⟨fr,hp⟩ y)=some (slD C k uf):=by exact rfl)(l:hp[id]? = some (.row T k vl):=by exact rfl)(J:Tab Tryz.prog t (.slice T) m b v:=by exact Aa rfl)(A:Tab Tryz.prog T d k bytes z:=by exact Aa rfl)(F:z.cells.size=k:=by exact rfl)(Z:Nat.blt e n=true:=by exact rfl)(j:(vl.length+uf.length)*bytes<=140737488355328:=by simp;omega)(B:vl.length+uf.length<=4611686018427387904:=by simp;omega)(p:Iz id (slD T k vl) fr=some vf:=by exact rfl)(K:PlainHp id hp:=by repeat (first | exact PlainHp.nil | refine PlainHp.var ?_ | refine PlainHp.row ?_ | refine PlainHp.dead ?_ | refine PlainHp.obj ?_ | refine PlainHp.pin rfl ?_ | refine PlainHp.varA rfl ?_))(f:FK hp id (.row T k (vl++uf))=some hp':=by exact rfl):AWl Tryz.prog s0 n ops Q (⟨some e,.call { callee:=.builtin .append,args:=#[x,y],argTypes:=#[t,t] },ty,ps,af,none⟩::rest) ⟨fr,hp⟩:=DV E O l J A F Z j B p K f h
end
section
variable {hp:List Ow} {m T z:Nat} {l l':List Ow}
theorem Yr{r:List (List D)}(h:HpLe hp m l l'):HpLe hp m (.row T z r::l) (.row T z r::l'):=HpLe.cons (OwLe.row rfl) h
variable{c:List D}
theorem Yv(h:HpLe hp m l l'):HpLe hp m (.var T (c.map .d)::l) (.var T (c.map .d)::l'):=HpLe.cons (OwLe.varD rfl) h
theorem Yd{x:D}{f r:List (Nat×AV)}(h:FrLe hp m f r)(C:BV f n=some (.d x):=by exact rfl):FrLe hp m f ((n,.d x)::r):=FrLe.cons C (AVle.d rfl) h
theorem Yp{t i o:Nat}{f r:List (Nat×AV)}(h:FrLe hp m f r)(C:BV f t=some (.ptr i o):=by exact rfl)(M:Nat.blt i m=true:=by exact rfl):FrLe hp m f ((t,.ptr i o)::r):=FrLe.cons C (AVle.ptr M) h
end
variable{H:List Ow}
theorem Po(A:GG H h=some r)(B:One H h:=by first | exact Fj rfl | exact Ev | exact One.ep):PartOk H h [r]:=PartOk.one A B
def A5M:List Oper->List (List Nat)->Nat->List (List Nat)
 |[],f,_=>f
 |o::l,f,i=>A5M l (f++[(List.range i).filter λj=>(Bu o).any λe=>Nat.beq e j||(f.getD e []).any (Nat.beq j)]) (i+1)
def A5w(t:Nat):List Oper->Nat->Option Nat
 |[],_=>none
 |o::l,i=>match o.dst with
  |some d=>bif Nat.beq d t then some i else A5w t l (i+1)
  |none=>A5w t l (i+1)
def A3T(L:List Oper):List Operand->List (Nat×Nat)
 |[]=>[]
 |.tmp t::l=>match A5w t L 0 with
  |some i=>(t,i)::A3T L l
  |none=>A3T L l
 |_::l=>A3T L l
def UV(L:List Oper):List Oper->List (List (Nat×Nat))
 |[]=>[]
 |o::l=>A3T L o.op.operands.toList::UV L l
variable{ve:List Oper}
theorem Dy {s0 : An} {Q : Exit → AS → Prop} {Y : List (Nat × AV)} {id : Nat} (m : Nat) (h : HS P ⟨Y, H⟩ (fun X => ∃ q, Tq Y H m ve X = some q ∧ AWl P s0 n ve.toArray Q (ve.drop m) q) [] ve (UV (ve.take m) (ve.take m))) (t : P.follows .mixedOrders = true := by kernel_rfl) (K : (UV (ve.take m) (ve.take m)).length = m := by kernel_rfl) (C : ((UV (ve.take m) (ve.take m)).length == (A5M (ve.take m) [] 0).length && Nat.ble (UV (ve.take m) (ve.take m)).length ve.length) = true := by kernel_rfl) (B : Dt ve (Fc 0 (UV (ve.take m) (ve.take m)) (A5M (ve.take m) [] 0)) = true := by kernel_rfl) (Z : Gw ve m n = true := by kernel_rfl) (A : LK 0 ve (UV (ve.take m) (ve.take m)) = true := by kernel_rfl) : AWp P s0 n (.region id ve.toArray true) Q ⟨Y, H⟩ :=
 OK (Ic t) (UV (ve.take m) (ve.take m)) _ C B Zeh A (by rw[K];exact h)
variable{uE:List Oper}
theorem K4{e:Nat}{a b c d:Oper}(h:AddE e ve uE):AddE e (a::b::c::d::ve) (a::b::c::d::uE):=.keep (.keep (.keep (.keep h)))
def Zd(G:List Ow)(arg:Operand->AV):List Operand->Option (List D)
 |[]=>some []
 |x::l=>match GG G (arg x),Zd G arg l with
  |some d,some R=>some (d::R)
  |_,_=>none
theorem Vo{G:List Ow}{arg:Operand->AV}:∀{l:List Operand} {R:List D},Zd G arg l=some R->ArgsLe G arg l R
 |[],R,h=>by cases h;exact ArgsLe.nil
 |x::l,R,h=>by
  unfold Zd at h;split at h
  .rename_i d o A B
   cases h;exact ArgsLe.cons A (D.le.refl _) (Vo B)
  .cases h
section
variable {P:Program} {hp:List Ow} {arg:Operand->AV} {dd:Option Tmp} {ty:TypeId} {ps:String} {af:Array Edge} {gd:Option (Nat×Bool)}
variable{vr:Array TypeId}{c:List D}{vJ:List Operand}{x:Operand}
theorem QF(p:arg x=.d (ex (.func (.func vb) #[] #[])))(Z:Zd hp arg vJ=some c)(I:Abs P vb c r):Quiet P hp ⟨dd,.call { callee:=.value x,args:=vJ.toArray,argTypes:=vr },ty,ps,af,gd⟩ arg (.d r):=EX p I (Vo Z)
end
structure HQ(q:Prop):Prop where
 a:q
theorem GoQ{p q:Prop}(k:q)(h:HQ q->p:=by intro w;(first | (apply Fk;refine⟨_,AZ (ao rfl),?_⟩) | (apply Fw;refine⟨_,Dm (ao rfl),?_⟩) | (apply OI;first | refine⟨_,Nf (ao rfl) rfl (Aa rfl) rfl rfl,?_⟩ | refine⟨_,GW (ao rfl) rfl (Aa rfl) rfl rfl,?_⟩ | refine⟨_,ID (ao rfl) rfl (Aa rfl) rfl rfl,?_⟩ | refine⟨_,Ky (ao rfl) (Aa rfl) rfl rfl,?_⟩ | refine⟨_,QE (ao rfl) (Aa rfl) rfl rfl,?_⟩ | refine⟨_,Gr (ao rfl) (Aa rfl) rfl rfl,?_⟩ | refine⟨_,Kz (ao rfl) rfl (Aa rfl) rfl (Id ZbU),?_⟩ | refine⟨_,IE (ao rfl) (Aa rfl) rfl (GD ZbU),?_⟩) | (apply Gt.index;refine⟨_,KC (ao rfl) (ao rfl) (Aa rfl) (Aa rfl) rfl ZbU (CellAt.mon ZbU),?_⟩) | (apply GZ;first | refine⟨_,OF (ao rfl) (Aa rfl) rfl (Aa rfl) rfl rfl,?_⟩ | refine⟨_,GX (ao rfl) (Aa rfl) rfl (Aa rfl) rfl,?_⟩) | (apply Mt;first | refine⟨_,KB rfl (ao rfl) (Aa rfl) (Aa rfl) rfl,?_⟩ | refine⟨_,Ck rfl (ao rfl) (Aa rfl) (Aa rfl) rfl ZbU,?_⟩ | refine⟨_,Ge rfl (ao rfl) (Aa rfl) (Aa rfl) rfl rfl ZbK,?_⟩ | refine⟨_,Lp (ao rfl) (ao rfl) (Aa rfl) (Aa rfl) ZbU,?_⟩ | refine⟨_,JX (ao rfl) (ao rfl) (Aa rfl) (Aa rfl) ZbU,?_⟩ | refine⟨_,TK (ao rfl) (ao rfl) (Aa rfl) (Aa rfl) ZbN ZbN rfl,?_⟩ | refine⟨_,TJ (ao rfl) (ao rfl) (Aa rfl) (Aa rfl) ZbN ZbN,?_⟩ | refine⟨_,KA (ao rfl) (ao rfl) (Aa rfl) (Aa rfl) ZbU,?_⟩) | (apply Gt.slice;first | refine⟨_,Mq rfl (ao rfl) (Aa rfl) (Aa rfl) rfl ZbU,?_⟩ | refine⟨_,Mk rfl (ao rfl) (Aa rfl) (Aa rfl) rfl ZbU,?_⟩) | (apply XR;first | refine⟨_,Bi rfl (Aa rfl),?_⟩ | refine⟨_,OE (ao rfl) (Aa rfl),?_⟩ | refine⟨_,XG rfl (Aa rfl),?_⟩) | (apply XS;first | refine⟨_,Kt (ao rfl) (ao rfl) ZbK,?_⟩ | refine⟨_,Ml (ao rfl) (ao rfl) ZbK,?_⟩ | refine⟨_,Nj (ao rfl) (ao rfl) ZbK ZbK,?_⟩) | (apply A2O;first | refine⟨_,Mm (ao rfl) (ao rfl) ZbK ZbK,?_⟩ | refine⟨_,Nb (ao rfl) (ao rfl) ZbK ZbK,?_⟩) | (apply A63;refine⟨_,XD (ao rfl) (ao rfl) ZbK ZbK ZbK,?_⟩) | (apply A2P;first | refine⟨_,QA (ao rfl) (ao rfl) ZbK ZbK,?_⟩ | refine⟨_,OC (ao rfl) (ao rfl) ZbN,?_⟩) | (apply A73;refine⟨_,XE (ao rfl) (ao rfl) ZbU ZbU,?_⟩) | (apply HD;first | refine⟨_,FH rfl (ao rfl) (ao rfl) ZbS,?_⟩ | refine⟨_,GY rfl (ao rfl) (ao rfl) ZbS,?_⟩ | refine⟨_,TL (ao rfl) (ao rfl) rfl,?_⟩ | refine⟨_,Ng (ao rfl) (ao rfl) Zcy,?_⟩ | refine⟨_,Nh (ao rfl) (ao rfl) Zcy,?_⟩ | refine⟨_,Nc (ao rfl) (ao rfl) Zcy,?_⟩ | refine⟨_,Nd (ao rfl) (ao rfl) Zcy,?_⟩ | refine⟨_,JY (ao rfl) (ao rfl),?_⟩ | refine⟨_,JW (ao rfl) (ao rfl),?_⟩ | refine⟨_,Ni (ao rfl) (ao rfl) ZbM,?_⟩ | refine⟨_,Kx (ao rfl) (ao rfl) ZbM,?_⟩) | (apply A72;first | refine⟨_,TG (ao rfl),?_⟩ | refine⟨_,QD (ao rfl) ZbK ZbK,?_⟩) | (apply A64;refine⟨_,XF (ao rfl) (ao rfl),?_⟩) | (apply Gt.min;refine⟨_,TH (ao rfl) (ao rfl),?_⟩) | (apply A65;refine⟨_,XH (ao rfl) rfl,?_⟩) | (apply Ms;first | refine⟨_,GC (ao rfl) (ao rfl),?_⟩ | refine⟨_,IC (ao rfl) (ao rfl),?_⟩ | refine⟨_,Mo (ao rfl) (ao rfl) (ao rfl),?_⟩ | refine⟨_,Mn (ao rfl) (ao rfl) (ao rfl),?_⟩) | (apply A0I;first | refine⟨_,CI (ao rfl) (Aa rfl) (Aa rfl) rfl rfl rfl rfl rfl,?_⟩ | (refine Dj (Aa rfl) (Aa rfl) rfl rfl rfl rfl rfl ?_;(repeat ((first | refine⟨_,AA (ao rfl),?_⟩ | refine⟨_,Po rfl,?_⟩);refine⟨_,rfl,?_⟩));refine⟨_,rfl,?_⟩)) | (apply A4q;first | refine⟨_,Gf (ao rfl) (Aa rfl) (Aa rfl) ZbK ZbK,?_⟩ | refine⟨_,OG (ao rfl) (Aa rfl) (Aa rfl),?_⟩) | (apply VO;first | (refine AT (Aa rfl) rfl rfl rfl ?_;(repeat ((first | refine⟨_,AA (ao rfl),?_⟩ | refine⟨_,Po rfl,?_⟩);refine⟨_,rfl,?_⟩));refine⟨_,rfl,?_⟩) | (refine Nn (Aa rfl) (Aa rfl) rfl rfl ?_;(repeat ((first | refine⟨_,AA (ao rfl),?_⟩ | refine⟨_,Po rfl,?_⟩);refine⟨_,rfl,?_⟩));refine⟨_,rfl,?_⟩)) | (apply VN;first | refine⟨_,QF (ao rfl) rfl Zcy,?_⟩ | refine⟨_,EX (ao rfl) Zcy ZbX,?_⟩));exact w.a):p:=h ⟨k⟩
theorem Go{p q:Prop}(k:q)(h:HQ q->p:=by intro w;(repeat (first | apply Ao | apply AWp.region | (apply VP;refine Al ?_) | (apply QJ;first | refine Sf ?_ | refine A4u (ao rfl) (ao rfl) rfl (Aa rfl) rfl rfl rfl ?_ | refine Kd (ao rfl) (ao rfl) rfl (Aa rfl) Zcx rfl rfl ?_ | refine Kc (ao rfl) (ao rfl) rfl (Aa rfl) Zcx (SetAt.mon ZbU) rfl ?_) | (apply A2X;refine Bx ?_) | (apply A67;first | refine Ap ?_ | refine DV (ao rfl) rfl rfl (Aa rfl) (Aa rfl) rfl rfl ZcA ZcA rfl ZbO rfl ?_) | (apply A4Q;refine TT (Aa rfl) (Aa rfl) rfl rfl rfl rfl rfl ?_) | (apply A74;refine A4v (ao rfl) (ao rfl) (Aa rfl) (Aa rfl) ZbK ZbK rfl rfl rfl rfl rfl rfl ?_) | (refine CU rfl rfl ?_;refine GoQ ?_) | refine QO rfl rfl rfl rfl rfl ?_ | (refine No rfl rfl rfl rfl rfl ?_;refine GoQ ?_) | apply OnlyN.mk' | apply AWl.nil | apply Yn | apply AWp.block | apply HG | apply BZ | apply Ci | apply Gi | apply Bz | apply Bv | apply Jf | apply BE | apply Ss | apply BP | refine VY rfl ?_ | (apply Jb;first | refine Ct ?_ | refine Cf ?_ | refine Ie (ao rfl) (decide_eq_true ZbK) ?_ | refine GE (ao rfl) (decide_eq_false ZbK) ?_ | refine Ie (ao rfl) Zcy ?_ | refine GE (ao rfl) Zcy ?_ | refine Ie (ao rfl) (by first | (simp;done) | fail) ?_ | refine GE (ao rfl) (by first | (simp;done) | fail) ?_ | refine Ie (ao rfl) Zhz ?_ | refine GE (ao rfl) Zhz ?_)));exact w.a):p:=h ⟨k⟩
theorem Cw{p q:Prop}(k:q)(h:HQ q->p:=by intro w;(repeat (first | refine⟨_,rfl,?_⟩ | (apply A2U;refine⟨_,HStep.n rfl (Aa rfl) rfl ZbN rfl,?_⟩;refine⟨_,rfl,?_⟩) | (apply TO;(refine Xq (AZ (ah rfl)) ?_)) | (apply So;(refine Xq (Dm (ah rfl)) ?_)) | (apply TP;first | (refine Xq (Nf (ah rfl) rfl (Aa rfl) rfl rfl) ?_) | (refine Xq (GW (ah rfl) rfl (Aa rfl) rfl rfl) ?_) | (refine Xq (ID (ah rfl) rfl (Aa rfl) rfl rfl) ?_) | (refine Xq (Ky (ah rfl) (Aa rfl) rfl rfl) ?_) | (refine Xq (QE (ah rfl) (Aa rfl) rfl rfl) ?_) | (refine Xq (Gr (ah rfl) (Aa rfl) rfl rfl) ?_) | (refine Xq (Kz (ah rfl) rfl (Aa rfl) rfl (Id ZbU)) ?_) | (refine Xq (IE (ah rfl) (Aa rfl) rfl (GD ZbU)) ?_)) | (apply Gh.index;(refine Xq (KC (ah rfl) (ah rfl) (Aa rfl) (Aa rfl) rfl ZbU (CellAt.mon ZbU)) ?_)) | (apply Ja;first | (refine Xq (OF (ah rfl) (Aa rfl) rfl (Aa rfl) rfl rfl) ?_) | (refine Xq (GX (ah rfl) (Aa rfl) rfl (Aa rfl) rfl) ?_)) | (apply IZ;first | (refine Xq (KB rfl (ah rfl) (Aa rfl) (Aa rfl) rfl) ?_) | (refine Xq (Ck rfl (ah rfl) (Aa rfl) (Aa rfl) rfl ZbU) ?_) | (refine Xq (Ge rfl (ah rfl) (Aa rfl) (Aa rfl) rfl rfl ZbK) ?_) | (refine Xq (Lp (ah rfl) (ah rfl) (Aa rfl) (Aa rfl) ZbU) ?_) | (refine Xq (JX (ah rfl) (ah rfl) (Aa rfl) (Aa rfl) ZbU) ?_) | (refine Xq (TK (ah rfl) (ah rfl) (Aa rfl) (Aa rfl) ZbN ZbN rfl) ?_) | (refine Xq (TJ (ah rfl) (ah rfl) (Aa rfl) (Aa rfl) ZbN ZbN) ?_) | (refine Xq (KA (ah rfl) (ah rfl) (Aa rfl) (Aa rfl) ZbU) ?_)) | (apply Gh.slice;first | (refine Xq (Mq rfl (ah rfl) (Aa rfl) (Aa rfl) rfl ZbU) ?_) | (refine Xq (Mk rfl (ah rfl) (Aa rfl) (Aa rfl) rfl ZbU) ?_)) | (apply A2R;first | (refine Xq (Bi rfl (Aa rfl)) ?_) | (refine Xq (OE (ah rfl) (Aa rfl)) ?_) | (refine Xq (XG rfl (Aa rfl)) ?_)) | (apply A2V;first | (refine Xq (Kt (ah rfl) (ah rfl) ZbK) ?_) | (refine Xq (Ml (ah rfl) (ah rfl) ZbK) ?_) | (refine Xq (Nj (ah rfl) (ah rfl) ZbK ZbK) ?_)) | (apply A2Q;first | (refine Xq (Mm (ah rfl) (ah rfl) ZbK ZbK) ?_) | (refine Xq (Nb (ah rfl) (ah rfl) ZbK ZbK) ?_)) | (apply Gh.quo;(refine Xq (XD (ah rfl) (ah rfl) ZbK ZbK ZbK) ?_)) | (apply XU;first | (refine Xq (QA (ah rfl) (ah rfl) ZbK ZbK) ?_) | (refine Xq (OC (ah rfl) (ah rfl) ZbN) ?_)) | (apply Gh.or;(refine Xq (XE (ah rfl) (ah rfl) ZbU ZbU) ?_)) | (apply A2T;first | (refine Xq (FH rfl (ah rfl) (ah rfl) ZbS) ?_) | (refine Xq (GY rfl (ah rfl) (ah rfl) ZbS) ?_) | (refine Xq (TL (ah rfl) (ah rfl) rfl) ?_) | (refine Xq (Ng (ah rfl) (ah rfl) Zcy) ?_) | (refine Xq (Nh (ah rfl) (ah rfl) Zcy) ?_) | (refine Xq (Nc (ah rfl) (ah rfl) Zcy) ?_) | (refine Xq (Nd (ah rfl) (ah rfl) Zcy) ?_) | (refine Xq (JY (ah rfl) (ah rfl)) ?_) | (refine Xq (JW (ah rfl) (ah rfl)) ?_) | (refine Xq (Ni (ah rfl) (ah rfl) ZbM) ?_) | (refine Xq (Kx (ah rfl) (ah rfl) ZbM) ?_)) | (apply A4P;first | (refine Xq (TG (ah rfl)) ?_) | (refine Xq (QD (ah rfl) ZbK ZbK) ?_)) | (apply Gh.max;(refine Xq (XF (ah rfl) (ah rfl)) ?_)) | (apply Gh.min;(refine Xq (TH (ah rfl) (ah rfl)) ?_)) | (apply A2S;(refine Xq (XH (ah rfl) rfl) ?_)) | (apply Zh;first | (refine Xq (GC (ah rfl) (ah rfl)) ?_) | (refine Xq (IC (ah rfl) (ah rfl)) ?_) | (refine Xq (Mo (ah rfl) (ah rfl) (ah rfl)) ?_) | (refine Xq (Mn (ah rfl) (ah rfl) (ah rfl)) ?_)) | (apply Nl;first | (refine Xq (CI (ah rfl) (Aa rfl) (Aa rfl) rfl rfl rfl rfl rfl) ?_) | (refine Hq rfl ?_;refine Dj (Aa rfl) (Aa rfl) rfl rfl rfl rfl rfl ?_;(repeat ((first | refine⟨_,AA (ah rfl),?_⟩ | refine⟨_,Po rfl,?_⟩);refine⟨_,rfl,?_⟩));refine⟨_,rfl,?_⟩;refine⟨_,rfl,?_⟩)) | (apply TQ;first | (refine Xq (Gf (ah rfl) (Aa rfl) (Aa rfl) ZbK ZbK) ?_) | (refine Xq (OG (ah rfl) (Aa rfl) (Aa rfl)) ?_)) | (apply QI;first | (refine Hq rfl ?_;refine AT (Aa rfl) rfl rfl rfl ?_;(repeat ((first | refine⟨_,AA (ah rfl),?_⟩ | refine⟨_,Po rfl,?_⟩);refine⟨_,rfl,?_⟩));refine⟨_,rfl,?_⟩;refine⟨_,rfl,?_⟩) | (refine Hq rfl ?_;refine Nn (Aa rfl) (Aa rfl) rfl rfl ?_;(repeat ((first | refine⟨_,AA (ah rfl),?_⟩ | refine⟨_,Po rfl,?_⟩);refine⟨_,rfl,?_⟩));refine⟨_,rfl,?_⟩;refine⟨_,rfl,?_⟩)) | (apply QH;first | (refine Xq (QF (ah rfl) rfl Zcy) ?_) | (refine Xq (EX (ah rfl) Zcy ZbX) ?_)) | (refine⟨_,A2N rfl rfl rfl,?_⟩;refine⟨_,rfl,?_⟩) | (apply TO;(refine⟨_,AK rfl rfl (AZ (ah rfl)),?_⟩;refine⟨_,rfl,?_⟩)) | (apply So;(refine⟨_,AK rfl rfl (Dm (ah rfl)),?_⟩;refine⟨_,rfl,?_⟩)) | (apply TP;first | (refine⟨_,AK rfl rfl (Nf (ah rfl) rfl (Aa rfl) rfl rfl),?_⟩;refine⟨_,rfl,?_⟩) | (refine⟨_,AK rfl rfl (GW (ah rfl) rfl (Aa rfl) rfl rfl),?_⟩;refine⟨_,rfl,?_⟩) | (refine⟨_,AK rfl rfl (ID (ah rfl) rfl (Aa rfl) rfl rfl),?_⟩;refine⟨_,rfl,?_⟩) | (refine⟨_,AK rfl rfl (Ky (ah rfl) (Aa rfl) rfl rfl),?_⟩;refine⟨_,rfl,?_⟩) | (refine⟨_,AK rfl rfl (QE (ah rfl) (Aa rfl) rfl rfl),?_⟩;refine⟨_,rfl,?_⟩) | (refine⟨_,AK rfl rfl (Gr (ah rfl) (Aa rfl) rfl rfl),?_⟩;refine⟨_,rfl,?_⟩) | (refine⟨_,AK rfl rfl (Kz (ah rfl) rfl (Aa rfl) rfl (Id ZbU)),?_⟩;refine⟨_,rfl,?_⟩) | (refine⟨_,AK rfl rfl (IE (ah rfl) (Aa rfl) rfl (GD ZbU)),?_⟩;refine⟨_,rfl,?_⟩)) | (apply Gh.index;(refine⟨_,AK rfl rfl (KC (ah rfl) (ah rfl) (Aa rfl) (Aa rfl) rfl ZbU (CellAt.mon ZbU)),?_⟩;refine⟨_,rfl,?_⟩)) | (apply Ja;first | (refine⟨_,AK rfl rfl (OF (ah rfl) (Aa rfl) rfl (Aa rfl) rfl rfl),?_⟩;refine⟨_,rfl,?_⟩) | (refine⟨_,AK rfl rfl (GX (ah rfl) (Aa rfl) rfl (Aa rfl) rfl),?_⟩;refine⟨_,rfl,?_⟩)) | (apply IZ;first | (refine⟨_,AK rfl rfl (KB rfl (ah rfl) (Aa rfl) (Aa rfl) rfl),?_⟩;refine⟨_,rfl,?_⟩) | (refine⟨_,AK rfl rfl (Ck rfl (ah rfl) (Aa rfl) (Aa rfl) rfl ZbU),?_⟩;refine⟨_,rfl,?_⟩) | (refine⟨_,AK rfl rfl (Ge rfl (ah rfl) (Aa rfl) (Aa rfl) rfl rfl ZbK),?_⟩;refine⟨_,rfl,?_⟩) | (refine⟨_,AK rfl rfl (Lp (ah rfl) (ah rfl) (Aa rfl) (Aa rfl) ZbU),?_⟩;refine⟨_,rfl,?_⟩) | (refine⟨_,AK rfl rfl (JX (ah rfl) (ah rfl) (Aa rfl) (Aa rfl) ZbU),?_⟩;refine⟨_,rfl,?_⟩) | (refine⟨_,AK rfl rfl (TK (ah rfl) (ah rfl) (Aa rfl) (Aa rfl) ZbN ZbN rfl),?_⟩;refine⟨_,rfl,?_⟩) | (refine⟨_,AK rfl rfl (TJ (ah rfl) (ah rfl) (Aa rfl) (Aa rfl) ZbN ZbN),?_⟩;refine⟨_,rfl,?_⟩) | (refine⟨_,AK rfl rfl (KA (ah rfl) (ah rfl) (Aa rfl) (Aa rfl) ZbU),?_⟩;refine⟨_,rfl,?_⟩)) | (apply Gh.slice;first | (refine⟨_,AK rfl rfl (Mq rfl (ah rfl) (Aa rfl) (Aa rfl) rfl ZbU),?_⟩;refine⟨_,rfl,?_⟩) | (refine⟨_,AK rfl rfl (Mk rfl (ah rfl) (Aa rfl) (Aa rfl) rfl ZbU),?_⟩;refine⟨_,rfl,?_⟩)) | (apply A2R;first | (refine⟨_,AK rfl rfl (Bi rfl (Aa rfl)),?_⟩;refine⟨_,rfl,?_⟩) | (refine⟨_,AK rfl rfl (OE (ah rfl) (Aa rfl)),?_⟩;refine⟨_,rfl,?_⟩) | (refine⟨_,AK rfl rfl (XG rfl (Aa rfl)),?_⟩;refine⟨_,rfl,?_⟩)) | (apply A2V;first | (refine⟨_,AK rfl rfl (Kt (ah rfl) (ah rfl) ZbK),?_⟩;refine⟨_,rfl,?_⟩) | (refine⟨_,AK rfl rfl (Ml (ah rfl) (ah rfl) ZbK),?_⟩;refine⟨_,rfl,?_⟩) | (refine⟨_,AK rfl rfl (Nj (ah rfl) (ah rfl) ZbK ZbK),?_⟩;refine⟨_,rfl,?_⟩)) | (apply A2Q;first | (refine⟨_,AK rfl rfl (Mm (ah rfl) (ah rfl) ZbK ZbK),?_⟩;refine⟨_,rfl,?_⟩) | (refine⟨_,AK rfl rfl (Nb (ah rfl) (ah rfl) ZbK ZbK),?_⟩;refine⟨_,rfl,?_⟩)) | (apply Gh.quo;(refine⟨_,AK rfl rfl (XD (ah rfl) (ah rfl) ZbK ZbK ZbK),?_⟩;refine⟨_,rfl,?_⟩)) | (apply XU;first | (refine⟨_,AK rfl rfl (QA (ah rfl) (ah rfl) ZbK ZbK),?_⟩;refine⟨_,rfl,?_⟩) | (refine⟨_,AK rfl rfl (OC (ah rfl) (ah rfl) ZbN),?_⟩;refine⟨_,rfl,?_⟩)) | (apply Gh.or;(refine⟨_,AK rfl rfl (XE (ah rfl) (ah rfl) ZbU ZbU),?_⟩;refine⟨_,rfl,?_⟩)) | (apply A2T;first | (refine⟨_,AK rfl rfl (FH rfl (ah rfl) (ah rfl) ZbS),?_⟩;refine⟨_,rfl,?_⟩) | (refine⟨_,AK rfl rfl (GY rfl (ah rfl) (ah rfl) ZbS),?_⟩;refine⟨_,rfl,?_⟩) | (refine⟨_,AK rfl rfl (TL (ah rfl) (ah rfl) rfl),?_⟩;refine⟨_,rfl,?_⟩) | (refine⟨_,AK rfl rfl (Ng (ah rfl) (ah rfl) Zcy),?_⟩;refine⟨_,rfl,?_⟩) | (refine⟨_,AK rfl rfl (Nh (ah rfl) (ah rfl) Zcy),?_⟩;refine⟨_,rfl,?_⟩) | (refine⟨_,AK rfl rfl (Nc (ah rfl) (ah rfl) Zcy),?_⟩;refine⟨_,rfl,?_⟩) | (refine⟨_,AK rfl rfl (Nd (ah rfl) (ah rfl) Zcy),?_⟩;refine⟨_,rfl,?_⟩) | (refine⟨_,AK rfl rfl (JY (ah rfl) (ah rfl)),?_⟩;refine⟨_,rfl,?_⟩) | (refine⟨_,AK rfl rfl (JW (ah rfl) (ah rfl)),?_⟩;refine⟨_,rfl,?_⟩) | (refine⟨_,AK rfl rfl (Ni (ah rfl) (ah rfl) ZbM),?_⟩;refine⟨_,rfl,?_⟩) | (refine⟨_,AK rfl rfl (Kx (ah rfl) (ah rfl) ZbM),?_⟩;refine⟨_,rfl,?_⟩)) | (apply A4P;first | (refine⟨_,AK rfl rfl (TG (ah rfl)),?_⟩;refine⟨_,rfl,?_⟩) | (refine⟨_,AK rfl rfl (QD (ah rfl) ZbK ZbK),?_⟩;refine⟨_,rfl,?_⟩)) | (apply Gh.max;(refine⟨_,AK rfl rfl (XF (ah rfl) (ah rfl)),?_⟩;refine⟨_,rfl,?_⟩)) | (apply Gh.min;(refine⟨_,AK rfl rfl (TH (ah rfl) (ah rfl)),?_⟩;refine⟨_,rfl,?_⟩)) | (apply A2S;(refine⟨_,AK rfl rfl (XH (ah rfl) rfl),?_⟩;refine⟨_,rfl,?_⟩)) | (apply Zh;first | (refine⟨_,AK rfl rfl (GC (ah rfl) (ah rfl)),?_⟩;refine⟨_,rfl,?_⟩) | (refine⟨_,AK rfl rfl (IC (ah rfl) (ah rfl)),?_⟩;refine⟨_,rfl,?_⟩) | (refine⟨_,AK rfl rfl (Mo (ah rfl) (ah rfl) (ah rfl)),?_⟩;refine⟨_,rfl,?_⟩) | (refine⟨_,AK rfl rfl (Mn (ah rfl) (ah rfl) (ah rfl)),?_⟩;refine⟨_,rfl,?_⟩)) | (apply Nl;first | (refine⟨_,AK rfl rfl (CI (ah rfl) (Aa rfl) (Aa rfl) rfl rfl rfl rfl rfl),?_⟩;refine⟨_,rfl,?_⟩) | (refine HqG rfl rfl ?_;refine Dj (Aa rfl) (Aa rfl) rfl rfl rfl rfl rfl ?_;(repeat ((first | refine⟨_,AA (ah rfl),?_⟩ | refine⟨_,Po rfl,?_⟩);refine⟨_,rfl,?_⟩));refine⟨_,rfl,?_⟩;refine⟨_,rfl,?_⟩)) | (apply TQ;first | (refine⟨_,AK rfl rfl (Gf (ah rfl) (Aa rfl) (Aa rfl) ZbK ZbK),?_⟩;refine⟨_,rfl,?_⟩) | (refine⟨_,AK rfl rfl (OG (ah rfl) (Aa rfl) (Aa rfl)),?_⟩;refine⟨_,rfl,?_⟩)) | (apply QI;first | (refine HqG rfl rfl ?_;refine AT (Aa rfl) rfl rfl rfl ?_;(repeat ((first | refine⟨_,AA (ah rfl),?_⟩ | refine⟨_,Po rfl,?_⟩);refine⟨_,rfl,?_⟩));refine⟨_,rfl,?_⟩;refine⟨_,rfl,?_⟩) | (refine HqG rfl rfl ?_;refine Nn (Aa rfl) (Aa rfl) rfl rfl ?_;(repeat ((first | refine⟨_,AA (ah rfl),?_⟩ | refine⟨_,Po rfl,?_⟩);refine⟨_,rfl,?_⟩));refine⟨_,rfl,?_⟩;refine⟨_,rfl,?_⟩)) | (apply QH;first | (refine⟨_,AK rfl rfl (QF (ah rfl) rfl Zcy),?_⟩;refine⟨_,rfl,?_⟩) | (refine⟨_,AK rfl rfl (EX (ah rfl) Zcy ZbX),?_⟩;refine⟨_,rfl,?_⟩))));exact w.a):p:=h ⟨k⟩
theorem Xo(P Q:List Tm)(i:P.length<=9223372036854775807):Abs Tryz.prog 17 [BQ P,BQ Q] (ex (.bool (Fn P Q))):=by
 by_cases K:P.length=Q.length
 .refine Ab Tryz.func17 λG=>?_
  rw[Tryz.ntmps17];refine Go ?_;refine Az (λE d=>∃k,k<=P.length/\E=P.length-k/\(∀j,j<k->tmB (BJ P j) (BJ Q j)=true)/\d=⟨[(0,.d (BQ P)),(1,.d (BQ Q)),(4,.d (ex (.bool false))),(5,.d (ex (.int .i64 (k:Nat))))],[]⟩) ?le ⟨0,by omega,rfl,λj h=>absurd h ZbK,rfl⟩ ?round
  case le=>exact ZiJ
  case round=>
   rintro E _ ⟨k,C,rfl,M,rfl⟩;by_cases A:k<P.length
   .have c:=Rh (BJ P k) (BJ Q k)
    cases F:tmB (BJ P k) (BJ Q k)with
    |true=>
     rw[F]at c;refine Go ?_;refine Dy 10 ?_;refine Zfn ?_
     refine Am (P.length - (k + 1)) ZbK ⟨k + 1, by omega, rfl, fun j B => (by
      by_cases e:j=k
      .rw [e];exact F
      .exact M j ZbK),rfl⟩ ?_
     exact ZiJ
    |false=>
     rw[F]at c
     have f:Fn P Q=false:=Nu λh=>by
      have:=(Kg.1 h).2 k A;rw[F]at this;cases this
     refine Go ?_;refine Dy 10 ?_;refine Zfn ?_;exact Ak (Ah (ResV.tmp rfl rfl) (Ac (by rw[f])))
   .obtain rfl:k=P.length:=by omega
    have f:Fn P Q=true:=KX.2 (Kg.2 ⟨K,M⟩);exact ZhD
 .have f:Fn P Q=false:=Nu λh=>K (Kg.1 h).1
  refine Ab Tryz.func17 λG=>?_;rw[Tryz.ntmps17];exact ZhD
theorem Ln(P Q:List Tm):Abs Tryz.prog 17 [BQ P,BQ Q] (ex (.bool (Fn P Q))):=by
 refine⟨Ag Tryz.func17 ZbM ZbM,λs G B C L=>?_⟩;obtain⟨A,c,_,h,a,_⟩:=ZL (L 0 ZbV);exact(Xo P Q ZbK).2 s G B C L
variable{vp:Code}{vm:Exit->AS->Prop}{vf:List (Nat×AV)}{vA:List Ow}{b:Nat}
theorem DR{s0:An}(t T E:Nat)(h:BV vf t=some (.d (ex (.slice none 0 0))))(K:T≠335)(g:0<E)(G:Ht H=some b)(f:Fy H (.row T E [])=some vA)(k:AWp P s0 n vp vm ⟨(t,.own b)::vf,vA⟩):AWp P s0 n vp vm ⟨vf,H⟩:=by
 rw[EF f]at k;obtain rfl:=Fi G;refine⟨λa w ⟨s,W,J,x⟩=>?_⟩;have q:a.tmps.getD t undef=.slice none 0 0:=x.fr t _ h
 have Q:t<a.tmps.size:=by
  rcases Nat.lt_or_ge t a.tmps.size with B | B
  .exact B
  .simp [B,undef]at q
 have I:a.tmps[t]? = some (.slice none 0 0):=by
  rw[Array.getD_eq_getD_getElem?,Array.getElem?_eq_getElem Q]at q;rw[Array.getElem?_eq_getElem Q];exact congrArg some q
 have L:a.put (some t) (.slice none 0 0)=a:=by
  unfold Act.put
  have:a.tmps.setIfInBounds t (.slice none 0 0)=a.tmps:=by
   apply Array.ext_getElem?;intro i;by_cases M:t=i
   .subst M;rw[I];simp[Q]
   .rw [Array.getElem?_setIfInBounds_ne M]
  simp only[this]
 have := x.new (GS.Le.refl s) (dst := some t) (v := .slice none 0 0) (u := .slice none 0 0) (r := .own H.length) (ow := .row T E []) (fun d Z => by cases Z; rw [← x.sz]; exact Q) ⟨Nat.lt_succ_self _, by simp⟩
  ⟨[],by simp only[if_pos];exact⟨by simp,.inl ⟨rfl,rfl⟩⟩,K,g,λA F=>by simp[Dg]at F,λk C=>absurd C (Nat.not_lt_zero k)⟩ (λA F=>by cases F)
 rw[L]at this;exact k.run a w ⟨s,_,J,this⟩
theorem He(b:Bool)(l:List Nat):Abs Tryz.prog 239 [ex (.bool b),wD l] (AJ (BW (IG b (val l)))):=by
 refine Bw (Ag Tryz.func239 ZbM ZbM) λs G H K q=>?_;rw[Yh K];have A:G.getD 0 undef=.bool b:=q 0 ZbV;rw[A];exact(Hf b _ l s.w (DK (q 1 ZbV))).mono λe N ⟨y,Y,m,k,X,i,S⟩=>⟨_,X,S,λj W O _ _=>by subst W;exact Gn O i⟩
variable{l f vo:List Nat}
theorem Wj(u:∀args w,(callFunc vb args).run Tryz.prog w=.ok (.enter vb args) w)(h:∀(B C:Value) (w:World),Words w B l->Words w C f->Calls Tryz.prog vb #[B,C] w λe N=>∃A,e=.returned A/\Words N A vo/\Ext w N):Abs Tryz.prog vb [wD l,wD f] (wD vo):=by
 refine Bw u λs G H K q=>?_;rw[Yh K];exact(h _ _ s.w (DK (q 0 ZbV)) (DK (q 1 ZbV))).mono λe N ⟨v,X,i,S⟩=>⟨_,X,S,λj W O _ _=>by subst W;exact Il O i⟩
theorem Zs(x y:Nat)(i:(Aq x).length<=4398046511104)(t:(Aq y).length<=4398046511104):Abs Tryz.prog 278 [wD (Aq x),wD (Aq y)] (wD (Aq (x*y))):=
 Wj (Ag Tryz.func278 ZbM ZbM) fun j A w s F => by
  have:=IU j A _ _ w s F i t;rwa [Aw,Aw]at this
theorem A0h(x y:Nat)(i:(Aq x).length<=4398046511104)(t:(Aq y).length<=4398046511104):Abs Tryz.prog 275 [wD (Aq x),wD (Aq y)] (wD (Aq (x+y))):=
 Wj (Ag Tryz.func275 ZbM ZbM) fun j A w s F => by
  have:=Xl j A _ _ w s F i t;rwa [Aw,Aw]at this
theorem Rt(x y:Nat)(h:y<=x)(i:(Aq x).length<=4398046511104):Abs Tryz.prog 277 [wD (Aq x),wD (Aq y)] (wD (Aq (x-y))):=
 Wj (Ag Tryz.func277 ZbM ZbM) fun j A w s F => by
  have:=Xj j A _ _ w s F (by rw[Aw,Aw];exact h) (BH h) i;rwa [Aw,Aw]at this
theorem Vc(x y:Nat)(i:(Aq x).length<=4398046511103)(g:y≠0):Abs Tryz.prog 282 [wD (Aq x),wD (Aq y)] (EY [wD (Aq (x/y)),wD (Aq (x%y))]):=by
 refine Bw (Ag Tryz.func282 ZbM ZbM) λs G H K q=>?_;rw[Yh K];refine(IX _ _ x y s.w (DK (q 0 ZbV)) (DK (q 1 ZbV)) i g).mono λe N ⟨A,F,n,c,Y,f,X,B,C,S⟩=>⟨_,X,S,λj W O _ _=>?_⟩;subst W;refine⟨_,rfl,rfl,λk E=>?_⟩;have E:k<2:=E
 match k,E with
 |0,_=>exact⟨_,rfl,Il O B⟩
 |1,_=>exact⟨_,rfl,Il O C⟩
theorem FV(x y:Int)(i:(Aq x.natAbs).length<=4398046511104)(b:(Aq y.natAbs).length<=4398046511104):Abs Tryz.prog 215 [AJ (BW x),AJ (BW y)] (AJ (BW (x*y))):=by
 have T:=He (decide (x<0) != decide (y<0)) (Aq (x.natAbs*y.natAbs));rw[Aw,show IG (decide (x<0) != decide (y<0)) (x.natAbs*y.natAbs)=x*y from SC x y]at T;refine Ab Tryz.func215 λA=>?_;rw[Tryz.ntmps215];apply Y1;refine Bx ?_;refine Bx ?_;refine Al ?_;refine Y0<|Ao ?_
 refine Dy 11 ?_;refine Xq AF ?_;refine Xq AL ?_;refine Xq AF ?_;refine Xq AL ?_;refine Xq A0y ?_;refine Xq AF ?_;refine Xq AL ?_;refine Xq AF ?_;refine Xq AL ?_;refine Xq (Bs (Zs x.natAbs y.natAbs i b)) ?_;refine Xq (Bs (T)) ?_;refine⟨_,rfl,?_⟩;refine Sf ?_;refine Y0<|Ci ?_
 exact ZiK
theorem ZV(x:Int):Abs Tryz.prog 279 [AJ (BW x)] (AJ (BW (-x))):=by
 have T:=He (!decide (x<0)) (Aq x.natAbs);rw[Aw,Yt]at T;refine Ab Tryz.func279 λA=>?_;rw[Tryz.ntmps279];exact Zfh
theorem ZW(x y:Int)(i:(Aq x.natAbs).length<=4398046511104)(b:(Aq y.natAbs).length<=4398046511104):Abs Tryz.prog 214 [AJ (BW x),AJ (BW y)] (AJ (BW (x+y))):=by
 have J:=He (decide (x<0));have N:=He (decide (y<0));by_cases h:decide (x<0)=decide (y<0)
 .have F:(decide (x<0)==decide (y<0))=true:=by simp [h]
  have c:=J (Aq (x.natAbs+y.natAbs));rw[Aw,SD h]at c;refine Ab Tryz.func214 λA=>?_;rw[Tryz.ntmps214];refine Go ?_;refine Dy 8 ?_;have O:=A0h x.natAbs y.natAbs i b;exact Zif
 .have F:(decide (x<0)==decide (y<0))=false:=by simp [h]
  by_cases Q:x.natAbs<y.natAbs
  .have I:EC x.natAbs y.natAbs<0:=by rw [EC, if_pos Q];decide
   have c:=N (Aq (y.natAbs-x.natAbs));rw[Aw,Ww h ZbK]at c;refine Ab Tryz.func214 λA=>?_;rw[Tryz.ntmps214];have C:=Gq x.natAbs y.natAbs;refine Go ?_;refine Dy 8 ?_;have f:=Rt y.natAbs x.natAbs ZbK b;exact Zif
  .have I:¬EC x.natAbs y.natAbs<0:=by rw [EC, if_neg Q];split<;>decide
   have c:=J (Aq (x.natAbs-y.natAbs));rw[Aw,Wx h ZbK]at c;refine Ab Tryz.func214 λA=>?_;rw[Tryz.ntmps214];have S:=Gq x.natAbs y.natAbs;refine Go ?_;refine Dy 8 ?_;have G:=Rt x.natAbs y.natAbs ZbK i;exact Zif
variable{vy:Array Value}{z v ue:Value}{w:World}
theorem ZF{U B C:ResultVar}(h:vK.results=#[U,B,C])(q:(Es vy U).run P w=.ok z w)(A:(Es vy B).run P w=.ok v w)(W:(Es vy C).run P w=.ok ue w):(results vK vy).run P w=.ok (.tuple #[z,v,ue]) w:=by
 have key:(results vK vy).run P w=((Es vy U).run P w).andThen λa N=>((Es vy B).run P N).andThen λb H=>((Es vy C).run P H).andThen λc u=>.ok (.tuple #[a,b,c]) u:=by
  unfold results;rw[h];cases U<;>cases B<;>cases C<;>simp[Es,KQ]
 rw[key,q,Result.andThen_ok,A,Result.andThen_ok,W,Result.andThen_ok]
theorem Vu{U M N:ResultVar}{x y z r:D}(h:ResV P vc U x)(a:ResV P vc M y)(L:ResV P vc N z)(K:D.le (EY [x,y,z]) r):Rets P vc #[U,M,N] r:=⟨λbase W s I E p l G=>by
 obtain⟨v,c,A⟩:=h.run base W s I l G;obtain⟨S,B,F⟩:=a.run base W s I l G;obtain⟨O,X,J⟩:=L.run base W s I l G;refine⟨_,ZF p c B X,K s _ ⟨_,rfl,rfl,λk C=>?_⟩⟩;have C:k<3:=C
 match k,C with
 |0,_=>exact⟨_,rfl,A⟩
 |1,_=>exact⟨_,rfl,F⟩
 |2,_=>exact⟨_,rfl,J⟩⟩
theorem PE(x y:Int)(i:(Aq x.natAbs).length<=4398046511103)(O:y≠0)(b:x.natAbs%y.natAbs=0):Abs Tryz.prog 225 [AJ (BW x),AJ (BW y)] (EY [AJ (BW (x/y)),AJ (BW (x%y)),ex (.int .i64 0)]):=by
 have K:¬(Aq y.natAbs).length=0:=λe=>O (by have:=Ba.1 e;omega);have Z:=Vb O (.inr b);have d:=Vc x.natAbs y.natAbs i ZbK;have c:=He (decide (x<0) != decide (y<0)) (Aq (x.natAbs/y.natAbs));have a:=He false (Aq (x.natAbs%y.natAbs));rw[Aw,show IG (decide (x<0) != decide (y<0)) (x.natAbs/y.natAbs)=x/y from Z.1.symm]at c;rw[Aw,<-Z.2]at a;have g:¬0<(Aq (x.natAbs%y.natAbs)).length:=by rw[b,BA];exact Nat.lt_irrefl 0
 by_cases E:x<0
 .rw [decide_eq_true E]at c
  rw[show BW x=[ex (.bool true),wD (Aq x.natAbs)]by rw[BW,decide_eq_true E]];refine Ab Tryz.func225 λA=>?_;rw[Tryz.ntmps225];exact ZfR
 .rw [decide_eq_false E]at c
  rw[show BW x=[ex (.bool false),wD (Aq x.natAbs)]by rw[BW,decide_eq_false E]];refine Ab Tryz.func225 λA=>?_;rw[Tryz.ntmps225];exact ZfR
variable{s:GS}{i j:Int}
theorem A5x{e:Ending}(h:A2s i j w e s.w)(H:s.Ok):∃v,e=.returned v/\Ext w s.w/\(EY [AJ (BW i),AJ (BW j),ex (.int .i64 0)]).rel s v:=by
 obtain⟨b,r,A,G,n,c,Y,f,X,B,C,S⟩:=h;refine⟨_,X,S,_,rfl,rfl,λk E=>?_⟩;have E:k<3:=E
 match k,E with
 |0,_=>exact⟨_,rfl,Gn H B⟩
 |1,_=>exact⟨_,rfl,Gn H C⟩
 |2,_=>exact⟨_,rfl,rfl⟩
variable{us ux:Int}
theorem A5y(u:∀args w,(callFunc vb args).run Tryz.prog w=.ok (.enter vb args) w)(h:∀(b r:Bool) (A M:Option Addr) (n c Y f:Nat) (w:World),IsInt w (.bool b) (.slice A n c) i->IsInt w (.bool r) (.slice M Y f) j->Calls Tryz.prog vb #[.agg #[.bool b,.slice A n c],.agg #[.bool r,.slice M Y f]] w (A2s us ux w)):Abs Tryz.prog vb [AJ (BW i),AJ (BW j)] (EY [AJ (BW us),AJ (BW ux),ex (.int .i64 0)]):=by
 refine Bw u λs I H K q=>?_;rw[Yh K];obtain⟨Q,a,Z,m,O,g⟩:=Dk (q 0 ZbV);obtain⟨k,d,V,J,F,B⟩:=Dk (q 1 ZbV);rw[O,F];refine(h Q k a d Z m V J s.w g B).mono λe N E=>?_;obtain⟨b,r,A,M,n,c,Y,f,X,B,C,S⟩:=id E;refine⟨_,X,S,λG W R _ _=>?_⟩;subst W;obtain⟨v,q,_,L⟩:=A5x E R;rw[X]at q;cases q;exact L
theorem Te(x y:Int)(i:(Aq x.natAbs).length<=4398046511104)(C:(Aq y.natAbs).length<=4398046511104)(O:y≠0)(B:x.natAbs%y.natAbs=0):Abs Tryz.prog 291 [AJ (BW x),AJ (BW y)] (EY [AJ (BW (x/y)),AJ (BW (x%y)),ex (.int .i64 0)]):=
 A5y (Ag Tryz.func291 ZbM ZbM) λb r A G n c Y f w h a=>Tk b r A G n c Y f x y w h a i C O (.inr B)
theorem DF{q:Rat}(A:q.num=i)(Z:(q.den:Int)=j):BW i++BW j=Eh q:=by
 rw[Eh,A,Z];rfl
theorem Vd:Aq 1=[1]:=by rw[Eo ZbN,show 1/BB=0 from rfl,BA];rfl
theorem A3w(h:(Aq i.natAbs).length=1):(Aq i.natAbs).getD 0 0=i.natAbs:=by
 obtain⟨w,W⟩:∃w,Aq i.natAbs=[w]:=List.length_eq_one_iff.1 h;have:=Aw i.natAbs;rw[W]at this ⊢;have B:w+BB*0=i.natAbs:=this;show w=_;omega
theorem A5p(h:i<0):BW i=[ex (.bool true),wD (Aq i.natAbs)]:=by rw[BW,decide_eq_true h]
theorem A5q(h:¬i<0):BW i=[ex (.bool false),wD (Aq i.natAbs)]:=by rw[BW,decide_eq_false h]
theorem Oq(z:Int):Abs Tryz.prog 285 [AJ (BW z)] (ex (.bool (decide (z=1)))):=by
 by_cases E:z<0
 .rw [decide_eq_false (show ¬z=1 by omega), A5p E]
  refine Ab Tryz.func285 λC=>?_;rw[Tryz.ntmps285];exact Zfi
 .rw [A5q E]
  by_cases A:(Aq z.natAbs).length=1
  .have B:=A3w A
   have g:(0:Nat)<(Aq z.natAbs).length:=by omega
   have Z:decide (z=1)=decide ((((Aq z.natAbs).getD 0 0:Nat):Int)=1):=decide_eq_decide.2 (by rw[B];omega);rw[Z];refine Ab Tryz.func285 λC=>?_;rw[Tryz.ntmps285];apply Y1;refine Bx ?_;refine Wa<|Y0<|Y1 ?_;refine Wq AF ?_;refine Wq AL ?_;refine Wq JU ?_;refine Wm ?_;refine Wg AF ?_;refine Wg AL ?_;refine Wg OB ?_;refine Wg Bj ?_;refine Wq Fg ?_;refine Wm ?_;refine Wg AF ?_;refine Wg AL ?_;refine Wg (KA (l:=Aq z.natAbs) (k:=0) (ao rfl) (ao rfl) (Aa rfl) (Aa rfl) g) ?_;refine Wg AO ?_;refine Wg Ch ?_;refine Wq Fg ?_;refine Wa<|Y0<|Ci ?_
   exact Yf
  .have F:¬z=1:=λe=>A (by rw [e]; exact congrArg List.length Vd)
   rw[decide_eq_false F];refine Ab Tryz.func285 λC=>?_;rw[Tryz.ntmps285];exact Zfi
theorem Zl(z:Int):Abs Tryz.prog 138 [AJ (BW z)] (AJ (Eh (z:Rat))):=by
 refine Ab Tryz.func138 λA=>?_;rw[Tryz.ntmps138];apply Y1;refine Bx ?_;refine Al ?_;refine Y0<|Ao ?_
 refine Dy 3 ?_;refine Xq Bd ?_;refine Xq (Bs (MK 1 ZbK ZbK)) ?_;(refine Hq rfl ?_;refine AT (Aa rfl) rfl rfl rfl ?_;(repeat ((first | refine⟨_,AA (ah rfl),?_⟩ | refine⟨_,Po rfl,?_⟩);refine⟨_,rfl,?_⟩));refine⟨_,rfl,?_⟩;refine⟨_,rfl,?_⟩);refine⟨_,rfl,?_⟩;refine Sf ?_;refine Y0<|Ci ?_
 exact ZiL
theorem WM(z:Int)(g:-9223372036854775808<=z)(A:z<=9223372036854775807):Abs Tryz.prog 67 [ex (.int .i64 z)] (AJ (Eh (z:Rat))):=by
 refine Ab Tryz.func67 λB=>?_;rw[Tryz.ntmps67];have O:=MK z g A;have C:=Zl z;exact Zfh
theorem Ft(z:Int)(g:-9223372036854775808<=z)(A:z<=9223372036854775807):Abs Tryz.prog 70 [ex (.int .i64 z)] (AJ (Eh (z:Rat))):=by
 refine Ab Tryz.func70 λB=>?_;rw[Tryz.ntmps70];have f:=IV z g A;have S:=IV 1 ZbK ZbK;refine Go ?_;exact ZiL
theorem DJ(p:Rat):Abs Tryz.prog 137 [AJ (Eh p)] (ex (.int .i64 p.num.sign)):=by
 rw[<-DF (q:=p) rfl rfl];refine Ab Tryz.func137 λA=>?_;rw[Tryz.ntmps137];have G:=EO p.num;exact Zfi
theorem EI(p:Rat):Abs Tryz.prog 140 [AJ (Eh p)] (ex (.int .i64 p.num.sign)):=by
 rw[<-DF (q:=p) rfl rfl];refine Ab Tryz.func140 λA=>?_;rw[Tryz.ntmps140];have y:=Nk p.num;exact Zfi
theorem PD(x y:Int)(i:(Aq x.natAbs).length<=4398046511104)(b:(Aq y.natAbs).length<=4398046511104)(O:0<y):Abs Tryz.prog 322 [AJ (BW x),AJ (BW y)] (AJ (Eh (Rat.divInt x y))):=by
 have c:=Oq y;by_cases A:y=1
 .subst A
  have Z:=WY x;rw[decide_eq_true rfl]at c;refine Ab Tryz.func322 λC=>?_;rw[Tryz.ntmps322];exact Zgw
 .rw [decide_eq_false A]at c
  have u:=Oz x y i b;have a:=Oq (Nat.gcd x.natAbs y.natAbs:Nat);have G:=De (x:=x) O;have X:0<Nat.gcd x.natAbs y.natAbs:=Nat.gcd_pos_of_pos_right _ ZbK;have r:(Aq ((Nat.gcd x.natAbs y.natAbs:Nat):Int).natAbs).length<=4398046511104:=Nat.le_trans (BH (Nat.le_of_dvd ZbK (Nat.gcd_dvd_right _ _))) b;by_cases B:((Nat.gcd x.natAbs y.natAbs:Nat):Int)=1
  .have Z:=Qd (x:=x) O ZbK
   rw[decide_eq_true B]at a;refine Ab Tryz.func322 λC=>?_;rw[Tryz.ntmps322];exact Zgw
  .rw [decide_eq_false B]at a
   have N:=Te x (Nat.gcd x.natAbs y.natAbs:Nat) i r ZbK (Nat.mod_eq_zero_of_dvd (Nat.gcd_dvd_left _ _));have d:=Te y (Nat.gcd x.natAbs y.natAbs:Nat) b r ZbK (Nat.mod_eq_zero_of_dvd (Nat.gcd_dvd_right _ _));refine Ab Tryz.func322 λC=>?_;rw[Tryz.ntmps322];refine Go ?_;exact Ak (Ah (ResV.cell rfl rfl (Aa rfl) rfl rfl rfl) (Ac (congrArg AJ (DF G.1 G.2))))
end Go.Proofs.YtcikkglcoeedlaaGreat
