/- Part 18. No condition. -/
import Derived.Test.YtcikkglcoeedlaaGreatDm17
set_option linter.all false
set_option maxRecDepth 100000
namespace Go.Proofs.YtcikkglcoeedlaaGreat
open _root_.Go.Proofs.Tryz
open Go.RowKit
variable{ve:AS}{uw:AS->Prop}{h:AV}{vy:AV->List Ow->Prop}{vV:Array Field}{vt:Array TypeId}{vB:Array Value}{vW:BinOp}{o uo:Bool}{vp ud:Code}{r vv uq xd:D}{uc:Field}{vQ:Func}{vd:FuncId}{s:GS}{a j uB uL:Int}{i:IntKind}{vk ue:List (List D)}{vb:List (Nat×AV)}{R:List AV}{v:List D}{l g vo:List Nat}{vf uN:List Oper}{vP:List Operand}{H vA:List Ow}{vc:List Tm}{uh:List Value}{e:Type}{vu:List e}{n b T m c k f vj vZ:Nat}{x y vT:Operand}{P:Program}{t U:TypeId}{z u um:Value}{w:World}{vK:e->List D}{ul:e->Prop}
section
variable {P:Program} {hp:List Ow} {arg:Operand->AV} {dd:Option Tmp} {ty:TypeId} {ps:String} {af:Array Edge} {gd:Option (Nat×Bool)}
theorem AQ{r:AV}(C:arg x=r:=by first | exact ao rfl | exact ah rfl):Quiet P hp ⟨dd,.move x,ty,ps,af,gd⟩ arg r:=AG C
theorem AbF(C:arg x=h:=by first | exact ao rfl | exact ah rfl):Quiet P hp ⟨dd,.assign x,ty,ps,af,gd⟩ arg h:=Bm C
theorem AF{d:TypeDesc}{n b T id off:Nat}{S r:List D}(C:arg x=.ptr id off:=by first | exact ao rfl | exact ah rfl)(A:hp[id]? = some (.var T (S.map .d)):=by exact rfl)(L:Tab P t d n b z:=by exact(Aa rfl))(q:ES d=true:=by exact rfl)(Y:A5d off n S=some r:=by exact rfl):Quiet P hp ⟨dd,.load t x,ty,ps,af,gd⟩ arg (.d (AP r)):=Mc C A L q Y
theorem As{d:TypeDesc}{n b T id off:Nat}(C:arg x=.ptr id off:=by first | exact ao rfl | exact ah rfl)(A:hp[id]? = some (.var T (v.map .d)):=by exact rfl)(L:Tab P t d n b z:=by exact(Aa rfl))(q:ES d=false:=by exact rfl)(Y:atO off v=some r:=by exact rfl):Quiet P hp ⟨dd,.load t x,ty,ps,af,gd⟩ arg (.d r):=BU C A L q Y
theorem Cm{d:TypeDesc}{n b T id off:Nat}{r:AV}(C:arg x=.ptr id off:=by first | exact ao rfl | exact ah rfl)(A:hp[id]? = some (.var T R):=by exact rfl)(L:Tab P t d n b z:=by exact(Aa rfl))(q:ES d=false:=by exact rfl)(G:R[off]? = some r:=by exact rfl):Quiet P hp ⟨dd,.load t x,ty,ps,af,gd⟩ arg r:=Ko C A L q G
theorem Ca{d:TypeDesc}{ds:List D}(C:arg x=.d (Fk T ds):=by first | exact ao rfl | exact ah rfl)(L:Tab P t d n b z:=by exact(Aa rfl))(q:ES d=true:=by exact rfl)(g:ds.length=n:=by exact rfl):Quiet P hp ⟨dd,.load t x,ty,ps,af,gd⟩ arg (.d (AP ds)):=MI C L q g
theorem Fg{d:TypeDesc}{S r:List D}(C:arg x=.d (Fk T S):=by first | exact ao rfl | exact ah rfl)(L:Tab P t d n b z:=by exact(Aa rfl))(q:ES d=true:=by exact rfl)(Y:Qf n S=some r:=by exact rfl):Quiet P hp ⟨dd,.load t x,ty,ps,af,gd⟩ arg (.d (AP r)):=Tp C L q Y
theorem AT{d:TypeDesc}{ds:List D}(C:arg x=.d (Fk T ds):=by first | exact ao rfl | exact ah rfl)(L:Tab P t d n b z:=by exact(Aa rfl))(q:ES d=false:=by exact rfl)(Y:atO 0 ds=some r:=by exact rfl):Quiet P hp ⟨dd,.load t x,ty,ps,af,gd⟩ arg (.d r):=Gv C L q Y
theorem AE{f n b h H T:Nat}{d:TypeDesc}{ds r:List D}(C:arg x=.d (Fk T ds):=by first | exact ao rfl | exact ah rfl)(A:Tab P t (.struct vV) n b z:=by exact(Aa rfl))(p:vV[f]? = some uc:=by exact rfl)(q:Tab P uc.type d h H u:=by exact(Aa rfl))(g:Nat.beq h 0=false:=by exact rfl)(Y:Qu uc.offset ds=some r:=by exact rfl):Quiet P hp ⟨dd,.fieldAddr t x f,ty,ps,af,gd⟩ arg (.d (Fk T r)):=Rt C A p q g Y
theorem AB{f n b h H id off:Nat}{d:TypeDesc}(C:arg x=.ptr id off:=by first | exact ao rfl | exact ah rfl)(A:Tab P t (.struct vV) n b z:=by exact(Aa rfl))(p:vV[f]? = some uc:=by exact rfl)(q:Tab P uc.type d h H u:=by exact(Aa rfl))(g:Nat.beq h 0=false:=by exact rfl):Quiet P hp ⟨dd,.fieldAddr t x f,ty,ps,af,gd⟩ arg (.ptr id (off+uc.offset)):=Iz C A p q g
theorem A4i{q n b h H T l:Nat}{d:TypeDesc}{a:e}(C:HO hp (arg x)=some (slD T l ((a::vu).map vK)):=by exact rfl)(M:arg y=.d (ex (.int i 0)):=by first | exact ao rfl | exact ah rfl)(L:Tab P t (.slice q) n b z:=by exact(Aa rfl))(A:Tab P q d h H u:=by exact(Aa rfl))(v:h=l:=by exact rfl):Quiet P hp ⟨dd,.indexAddr t x y,ty,ps,af,gd⟩ arg (.d (Fk T (vK a))):=II C M L A v
theorem Dt[Inhabited e]{q n b h H T E k:Nat}{d:TypeDesc}{l:List e}(C:HO hp (arg x)=some (slD T E (l.map vK)):=by exact rfl)(M:arg y=.d (ex (.int i (k:Nat))):=by first | exact ao rfl | exact ah rfl)(L:Tab P t (.slice q) n b z:=by exact(Aa rfl))(A:Tab P q d h H u:=by exact(Aa rfl))(v:h=E:=by exact rfl)(B:k<l.length:=by first | omega | (simp;omega)):Quiet P hp ⟨dd,.indexAddr t x y,ty,ps,af,gd⟩ arg (.d (Fk T (vK (l.getD k default)))):=CE C M L A v B
theorem Ti{d:TypeDesc}(C:arg x=.ptr f vj:=by first | exact ao rfl | exact ah rfl)(M:arg y=.d (ex (.int i ((vZ:Nat):Int))):=by first | exact ao rfl | exact ah rfl)(L:Tab P t (.array k n) b T z:=by exact(Aa rfl))(q:Tab P n d m c u:=by exact(Aa rfl))(B:vZ<k:=by first | omega | (simp;omega)):Quiet P hp ⟨dd,.indexAddr t x y,ty,ps,af,gd⟩ arg (.ptr f (vj+vZ*m)):=Nx C M L q B
theorem A1p{e n b h H len T k:Nat}{d:TypeDesc}(C:arg x=.d (Fk T v):=by first | exact ao rfl | exact ah rfl)(M:arg y=.d (ex (.int i ((k:Nat):Int))):=by first | exact ao rfl | exact ah rfl)(L:Tab P t (.array len e) n b z:=by exact(Aa rfl))(q:Tab P e d h H u:=by exact(Aa rfl))(B:k<len:=by first | omega | (simp;omega)):Quiet P hp ⟨dd,.indexAddr t x y,ty,ps,af,gd⟩ arg (.d (Fk T (v.drop (k*h)))):=Md C M L q B
theorem Xd{e n b h H len id off:Nat}{d:TypeDesc}{A:IntKind}{i:Int}(C:arg x=.ptr id off:=by first | exact ao rfl | exact ah rfl)(M:arg y=.d (ex (.int A i)):=by first | exact ao rfl | exact ah rfl)(L:Tab P t (.array len e) n b z:=by exact(Aa rfl))(q:Tab P e d h H u:=by exact(Aa rfl))(c:0<=i:=by decide)(I:i<len:=by decide):Quiet P hp ⟨dd,.indexAddr t x y,ty,ps,af,gd⟩ arg (.ptr id (off+i.toNat*h)):=Rr C M L q c I
theorem Oy{d:TypeDesc}(C:HO hp (arg x)=some (slD k f (vu.map vK)):=by exact rfl)(M:arg y=.d (eN vj):=by first | exact ao rfl | exact ah rfl)(L:Tab P t (.slice n) b T z:=by exact(Aa rfl))(q:Tab P n d m c u:=by exact(Aa rfl))(v:m=f:=by exact rfl)(J:vj<=vu.length:=by first | omega | (simp;omega)):Quiet P hp ⟨dd,.slice t x (some y) none none,ty,ps,af,gd⟩ arg (.d (slD k f ((vu.drop vj).map vK))):=Kp C M L q v J
theorem BH{U:Type}{e n b T sz:Nat}{f:U->List D}{l:List U}(C:HO hp (arg x)=some (slD T sz (l.map f)):=by exact rfl)(L:Tab P t (.slice e) n b z:=by exact(Aa rfl)):Quiet P hp ⟨dd,.call { callee:=.builtin .len,args:=#[x],argTypes:=#[t] },ty,ps,af,gd⟩ arg (.d (eN l.length)):=Bh C L
theorem Ro{e n b:Nat}(C:arg x=.d (wD l):=by first | exact ao rfl | exact ah rfl)(L:Tab P t (.slice e) n b z:=by exact(Aa rfl)):Quiet P hp ⟨dd,.call { callee:=.builtin .len,args:=#[x],argTypes:=#[t] },ty,ps,af,gd⟩ arg (.d (eN l.length)):=Rq C L
theorem CL{a:Nat}(C:arg x=.d (eN a):=by first | exact ao rfl | exact ah rfl)(M:arg y=.d (eI 1):=by first | exact ao rfl | exact ah rfl)(q:(a:Int)<9223372036854775807:=by omega):Quiet P hp ⟨dd,.binOp .add t x y U,ty,ps,af,gd⟩ arg (.d (eN (a+1))):=HU C M q
theorem Xe(C:arg x=.d (eI a):=by first | exact ao rfl | exact ah rfl)(M:arg y=.d (eI j):=by first | exact ao rfl | exact ah rfl)(q:-9223372036854775808<=a+j:=by omega)(A:a+j<=9223372036854775807:=by omega):Quiet P hp ⟨dd,.binOp .add t x y U,ty,ps,af,gd⟩ arg (.d (eI (a+j))):=PW C M q A
theorem A2Z(C:arg x=.d (eN n):=by first | exact ao rfl | exact ah rfl)(M:arg y=.d (eI 1):=by first | exact ao rfl | exact ah rfl)(c:0<n:=by omega)(q:(n:Int)<9223372036854775807:=by omega):Quiet P hp ⟨dd,.binOp .sub t x y U,ty,ps,af,gd⟩ arg (.d (eN (n-1))):=Jy C M c q
theorem A1m(C:arg x=.d (eI a):=by first | exact ao rfl | exact ah rfl)(M:arg y=.d (eI j):=by first | exact ao rfl | exact ah rfl)(q:-9223372036854775808<=a-j:=by omega)(A:a-j<=9223372036854775807:=by omega):Quiet P hp ⟨dd,.binOp .sub t x y U,ty,ps,af,gd⟩ arg (.d (eI (a-j))):=PP C M q A
theorem Ab8(C:arg x=.d (eI a):=by first | exact ao rfl | exact ah rfl)(M:arg y=.d (eI j):=by first | exact ao rfl | exact ah rfl)(c:0<=a:=by omega)(q:a<=9223372036854775807:=by omega)(E:0<j:=by omega):Quiet P hp ⟨dd,.binOp .quo t x y U,ty,ps,af,gd⟩ arg (.d (eI (a/j))):=Xm C M c q E
theorem A1n{k:IntKind}(C:arg x=.d (ex (.int k a)):=by first | exact ao rfl | exact ah rfl)(M:arg y=.d (ex (.int k j)):=by first | exact ao rfl | exact ah rfl)(c:0<=a:=by omega)(E:0<j:=by omega):Quiet P hp ⟨dd,.binOp .rem t x y U,ty,ps,af,gd⟩ arg (.d (ex (.int k (a%j)))):=Tl C M c E
theorem Bc{k:IntKind}(E:UQ vW=true:=by exact rfl)(C:arg x=.d (ex (.int k a)):=by first | exact ao rfl | exact ah rfl)(M:arg y=.d (ex (.int k j)):=by first | exact ao rfl | exact ah rfl)(G:CV vW a j:=by first | (simp only[CV,Yat,Ybg];omega) | (simp[CV];done) | (simp[CV];omega)):Quiet P hp ⟨dd,.binOp vW t x y U,ty,ps,af,gd⟩ arg (.d (eB true)):=Hk E C M G
theorem AL{k:IntKind}(E:UQ vW=true:=by exact rfl)(C:arg x=.d (ex (.int k a)):=by first | exact ao rfl | exact ah rfl)(M:arg y=.d (ex (.int k j)):=by first | exact ao rfl | exact ah rfl)(G:¬CV vW a j:=by first | (simp only[CV,Yat,Ybg];omega) | (simp[CV];done) | (simp[CV];omega)):Quiet P hp ⟨dd,.binOp vW t x y U,ty,ps,af,gd⟩ arg (.d (eB false)):=IA E C M G
theorem Ci{k:IntKind}{a b:Int}(C:arg x=.d (ex (.int k a)):=by first | exact ao rfl | exact ah rfl)(M:arg y=.d (ex (.int k b)):=by first | exact ao rfl | exact ah rfl)(G:Zg vW a b=some o:=by exact rfl):Quiet P hp ⟨dd,.binOp vW t x y U,ty,ps,af,gd⟩ arg (.d (eB o)):=Xw C M G
theorem A4h(C:arg x=.d (eB o):=by first | exact ao rfl | exact ah rfl)(M:arg y=.d (eB uo):=by first | exact ao rfl | exact ah rfl)(e:P.underlying t=some .bool:=by kernel_rfl):Quiet P hp ⟨dd,.binOp .neq t x y U,ty,ps,af,gd⟩ arg (.d (eB (!(o==uo)))):=MH C M e
theorem GD(C:arg x=.d (eB o):=by first | exact ao rfl | exact ah rfl):Quiet P hp ⟨dd,.unOp .not t x,ty,ps,af,gd⟩ arg (.d (eB (!o))):=Xp C
theorem A1o(C:arg x=.d (eI a):=by first | exact ao rfl | exact ah rfl)(q:-9223372036854775807<=a:=by omega)(A:a<=9223372036854775807:=by omega):Quiet P hp ⟨dd,.unOp .neg t x,ty,ps,af,gd⟩ arg (.d (eI (-a))):=Tn C q A
theorem A72(C:arg x=.d (FA v):=by first | exact ao rfl | exact ah rfl)(Y:atO n v=some r:=by exact rfl):Quiet P hp ⟨dd,.extract x n,ty,ps,af,gd⟩ arg (.d r):=Xv C Y
theorem Cw{r:AV}(C:arg y=r:=by first | exact ao rfl | exact ah rfl)(G:arg x=.d (eB true):=by first | exact ao rfl | exact ah rfl):Quiet P hp ⟨dd,.pick x y vT,ty,ps,af,gd⟩ arg r:=Id C G
theorem BT{r:AV}(M:arg vT=r:=by first | exact ao rfl | exact ah rfl)(G:arg x=.d (eB false):=by first | exact ao rfl | exact ah rfl):Quiet P hp ⟨dd,.pick x y vT,ty,ps,af,gd⟩ arg r:=Kn M G
theorem A4j{k:IntKind}{d:TypeDesc}(C:arg x=.d (ex (.int k a)):=by first | exact ao rfl | exact ah rfl)(p:Tab P t d n b z:=by exact(Aa rfl))(e:Tab P U (.int .i64) T m u:=by exact(Aa rfl))(q:-9223372036854775808<=a:=by omega)(A:a<=9223372036854775807:=by omega):Quiet P hp ⟨dd,.convert t U x,ty,ps,af,gd⟩ arg (.d (eI a)):=Ge C p e q A
theorem AJ{f:Operand}{ds:List D}(G:Abs P vd ds r)(p:arg f=.d (ex (.func (.func vd) #[] #[])):=by first | exact ao rfl | exact ah rfl)(t:ArgsLe hp arg vP ds:=by repeat (first | exact ArgsLe.nil | refine ArgsLe.cons rfl (D.le.refl _) ?_ | refine ArgsLe.cons rfl AM ?_)):Quiet P hp ⟨dd,.call { callee:=.value f,args:=vP.toArray,argTypes:=vt },ty,ps,af,gd⟩ arg (.d r):=BO p G t
end
section
variable {P:Program} {s0:An} {n:Nat} {ops:Array Oper} {Q:Exit->AS->Prop} {rest:List Oper} {fr:List (Nat×AV)} {hp:List Ow} {ty:TypeId} {ps:String} {af:Array Edge} {d:Nat} {op:Op} {r:AV}
theorem Wq(m:Quiet P hp ⟨some d,op,ty,ps,af,none⟩ (AS.arg ⟨fr,hp⟩) r)(h:AWl P s0 n ops Q rest ⟨(d,r)::fr,hp⟩)(a:BN op=true:=by exact rfl)(q:Nat.blt d n=true:=by exact rfl):AWl P s0 n ops Q (⟨some d,op,ty,ps,af,none⟩::rest) ⟨fr,hp⟩:=De a q ⟨r,m,h⟩
theorem Wg{j:Nat}{e:Nat}(m:Quiet P hp ⟨some d,op,ty,ps,af,some (j,o)⟩ (AS.arg ⟨fr,hp⟩) r)(h:AWl P s0 n ops Q rest ⟨(d,r)::fr,hp⟩)(M:(ops[j]?).bind (·.dst)=some e:=by exact rfl)(I:Ce fr e=some (.d (eB o)):=by exact rfl)(N:Nat.blt e n=true:=by exact rfl)(a:BN op=true:=by exact rfl)(q:Nat.blt d n=true:=by exact rfl):AWl P s0 n ops Q (⟨some d,op,ty,ps,af,some (j,o)⟩::rest) ⟨fr,hp⟩:=Qc M I N a q ⟨r,m,h⟩
theorem Ws{j:Nat}(h:AWl P s0 n ops Q rest ⟨(d,.d (ex undef))::fr,hp⟩)(M:(ops[j]?).bind (·.dst)=some b:=by exact rfl)(I:Ce fr b=some (.d (ex z)):=by exact rfl)(A:isB z o=false:=by exact rfl)(N:Nat.blt b n=true:=by exact rfl)(q:Nat.blt d n=true:=by exact rfl):AWl P s0 n ops Q (⟨some d,op,ty,ps,af,some (j,o)⟩::rest) ⟨fr,hp⟩:=TC M I A N q h
end
section
variable {P:Program} {σ:AS} {K:List HR->Prop} {acc acc':List HR} {o:Oper} {L:List Oper} {e:List (Nat×Nat)} {es:List (List (Nat×Nat))} {r:AV}
theorem Xq(m:Quiet P σ.hp o (DN σ acc e) r)(h:HS P σ K acc' L es)(R:o.guard=none:=by exact rfl)(t:RR acc (.av r)=some acc':=by exact rfl):HS P σ K acc (o::L) (e::es):=⟨_,HStep.q R m,_,t,h⟩
theorem Xg{b:Bool}(m:Quiet P σ.hp o (DN σ acc e) r)(h:HS P σ K acc' L es)(R:o.guard=some (n,b):=by exact rfl)(X:acc[n]? = some (.av (.d (eB b))):=by exact rfl)(t:RR acc (.av r)=some acc':=by exact rfl):HS P σ K acc (o::L) (e::es):=⟨_,AZ R X m,_,t,h⟩
theorem Xn{d:TypeDesc}(h:HS P σ K acc' L es)(R:o.guard=none:=by exact rfl)(F:o.op=.alloc n:=by exact rfl)(A:Tab P n d b T z:=by exact Aa rfl)(B:n≠335:=by decide)(q:Ih z.cells.toList=true:=by exact rfl)(t:RR acc (.new n z.cells.toList)=some acc':=by exact rfl):HS P σ K acc (o::L) (e::es):=⟨_,HStep.n R A F B q,_,t,h⟩
theorem HqG{R:HR->Prop}{b:Bool}(B:o.guard=some (n,b))(X:acc[n]? = some (.av (.d (eB b))))(h:∃r,Quiet P σ.hp o (DN σ acc e) r/\R (.av r)):∃r,HStep P σ acc e o r/\R r:=let⟨r,q,A⟩:=h;⟨_,AZ B X q,A⟩
end
end Go.Proofs.YtcikkglcoeedlaaGreat
set_option linter.unusedSimpArgs false
set_option linter.unusedVariables false
namespace Go.Proofs.YtcikkglcoeedlaaGreat
open _root_.Go.Proofs.Tryz
open Go.RowKit
section
variable {P:Program} {s0:An} {n:Nat} {ops:Array Oper} {Q:Exit->AS->Prop} {σ:AS}
variable{uw:AS->Prop}
theorem Yn(h:uw σ):AThen uw Q .normal σ:=KY h
theorem Y0(h:uw σ):AWl P s0 n ops (AThen uw Q) [] σ:=AWl.nil (KY h)
variable{vp:Code}
theorem Y1{i:Nat}{l:List Oper}(h:AWl P s0 n l.toArray (AThen (AWp P s0 n vp Q) Q) l σ):AWp P s0 n (.seq (.region i l.toArray false) vp) Q σ:=Ah (AWp.region h)
theorem Ys(h:uw σ):AWp P s0 n .skip (AThen uw Q) σ:=Hl (KY h)
end
variable{ve:AS}{h:AV}{r:D}{vQ:Func}{n:Nat}{P:Program}
theorem Yf(Y:vQ.results=#[.tmp n]:=by exact rfl)(q:Ce ve.fr n=some h:=by exact rfl)(C:HO ve.hp h=some r:=by exact rfl):Fin P vQ r .ret ve:=AA (by rw[Y];exact Am (ResV.tmp q C) (D.le.refl _))
theorem Ab {f : FuncId} {c : Code} {ds : List D} (p : P.funcs[f]? = some vQ) (h : ∀ y, AWp P y vQ.ntmps c (Fin P vQ r) ⟨params 0 ds, []⟩) (E : vQ.body = some c := by exact rfl) (q : (vQ.name == "runtime.NumGoroutine") = false := by kernel_rfl) (A : vQ.body.isNone = false := by kernel_rfl) (g : Nat.ble ds.length vQ.ntmps = true := by exact rfl) : Abs P f ds r := Abs.intro p E (Ag p q A) g h
section
variable {P:Program} {s0:An} {n:Nat} {ops:Array Oper} {Q:Exit->AS->Prop} {fr:List (Nat×AV)} {hp hp':List Ow} {rest:List Oper} {ty:TypeId} {ps:String} {af:Array Edge} {d:Nat} {x:Operand} {r:AV}
theorem Wm(h:AWl P s0 n ops Q rest ⟨(d,r)::fr,hp⟩)(C:AS.arg ⟨fr,hp⟩ x=r:=by exact ao rfl)(q:Nat.blt d n=true:=by exact rfl):AWl P s0 n ops Q (⟨some d,.move x,ty,ps,af,none⟩::rest) ⟨fr,hp⟩:=Wq (AG C) h rfl q
theorem Wa(h:AWl P s0 n ops Q rest ⟨(d,r)::fr,hp⟩)(C:AS.arg ⟨fr,hp⟩ x=r:=by exact ao rfl)(q:Nat.blt d n=true:=by exact rfl):AWl P s0 n ops Q (⟨some d,.assign x,ty,ps,af,none⟩::rest) ⟨fr,hp⟩:=Wq (Bm C) h rfl q
variable{vp ud:Code}
theorem Ct(h:AWp P s0 n vp Q ⟨fr,hp⟩)(C:AS.arg ⟨fr,hp⟩ x=.d (eB true):=by exact ao rfl):AWp P s0 n (.cond x vp ud) Q ⟨fr,hp⟩:=Qd C h
theorem Cf(h:AWp P s0 n ud Q ⟨fr,hp⟩)(C:AS.arg ⟨fr,hp⟩ x=.d (eB false):=by exact ao rfl):AWp P s0 n (.cond x vp ud) Q ⟨fr,hp⟩:=Qe C h
variable{R:List AV}{z:Value}
theorem Sf{T o:TypeId}{t:TypeDesc}{b id m:Nat}{y:Operand}{ds:List D}(h:AWl prog s0 n ops Q rest ⟨fr,hp'⟩)(C:AS.arg ⟨fr,hp⟩ x=.ptr id 0:=by exact ao rfl)(M:AS.arg ⟨fr,hp⟩ y=.d (AP ds):=by exact ao rfl)(q:hp[id]? = some (.var o R):=by exact rfl)(L:Tab prog T t m b z:=by exact Aa rfl)(v:ds.length=m:=by exact rfl)(A:R.length=m:=by exact rfl)(a:Gk hp id (.var o (ds.map .d))=some hp':=by exact rfl):AWl prog s0 n ops Q (⟨none,.store T x y,ty,ps,af,none⟩::rest) ⟨fr,hp⟩:=A9c C M q L v A a h
variable{t:TypeId}
theorem Al{d:TypeDesc}{m b k A:Nat}{c:List D}(h:AWl prog s0 n ops Q rest ⟨(A,.ptr k 0)::fr,hp'⟩)(L:Tab prog t d m b z:=by exact Aa rfl)(e:Nat.beq t 335=false:=by exact rfl)(q:Ih z.cells.toList=true:=by exact rfl)(C:Nat.blt A n=true:=by exact rfl)(G:exO z.cells.toList=some c:=by exact rfl)(B:Ik hp=some k:=by exact rfl)(a:Gp hp (.var t (c.map .d))=some hp':=by exact rfl):AWl prog s0 n ops Q (⟨some A,.alloc t,ty,ps,af,none⟩::rest) ⟨fr,hp⟩:=Abp L e q C G B a h
theorem Bx{ds:List D}{k q:Nat}(h:AWl P s0 n ops Q rest ⟨(q,.ptr k 0)::fr,hp'⟩)(C:AS.arg ⟨fr,hp⟩ x=.d (AP ds):=by exact ao rfl)(e:Nat.beq t 335=false:=by exact rfl)(A:Nat.blt q n=true:=by exact rfl)(B:Ik hp=some k:=by exact rfl)(a:Gp hp (.var t (ds.map .d))=some hp':=by exact rfl):AWl P s0 n ops Q (⟨some q,.box t x,ty,ps,af,none⟩::rest) ⟨fr,hp⟩:=Abo C e A B a h
variable{vk ue:List (List D)}{vb:List (Nat×AV)}{x y:Operand}{u:Value}
theorem Ap{t T I l bytes id m b e:Nat}{d:TypeDesc}(h:AWl prog s0 n ops Q rest ⟨(e,.own id)::vb,hp'⟩)(C:AS.arg ⟨fr,hp⟩ x=.own id:=by exact ao rfl)(M:HO hp (AS.arg ⟨fr,hp⟩ y)=some (slD I l ue):=by exact rfl)(B:hp[id]? = some (.row T l vk):=by exact rfl)(L:Tab prog t (.slice T) m b u:=by exact Aa rfl)(A:Tab prog T d l bytes z:=by exact Aa rfl)(G:z.cells.size=l:=by exact rfl)(q:Nat.blt e n=true:=by exact rfl)(E:(vk.length+ue.length)*bytes<=140737488355328:=by simp;omega)(F:vk.length+ue.length<=4611686018427387904:=by simp;omega)(p:IZ id (slD T l vk) fr=some vb:=by exact rfl)(N:PlainHp id hp:=by repeat (first | exact PlainHp.nil | refine PlainHp.var ?_ | refine PlainHp.row ?_ | refine PlainHp.dead ?_ | refine PlainHp.obj ?_ | refine PlainHp.pin rfl ?_ | refine PlainHp.varA rfl ?_))(a:Gk hp id (.row T l (vk++ue))=some hp':=by exact rfl):AWl prog s0 n ops Q (⟨some e,.call { callee:=.builtin .append,args:=#[x,y],argTypes:=#[t,t] },ty,ps,af,none⟩::rest) ⟨fr,hp⟩:=EC C M B L A G q E F p N a h
end
section
variable {hp:List Ow} {m T z:Nat} {l l':List Ow}
theorem Yr{r:List (List D)}(h:HpLe hp m l l'):HpLe hp m (.row T z r::l) (.row T z r::l'):=HpLe.cons (OwLe.row rfl) h
theorem Yv{c:List D}(h:HpLe hp m l l'):HpLe hp m (.var T (c.map .d)::l) (.var T (c.map .d)::l'):=HpLe.cons (OwLe.varD rfl) h
theorem Yd{x:D}{f r:List (Nat×AV)}(h:FrLe hp m f r)(B:Ce f n=some (.d x):=by exact rfl):FrLe hp m f ((n,.d x)::r):=FrLe.cons B (AVle.d rfl) h
theorem Yp{t i o:Nat}{f r:List (Nat×AV)}(h:FrLe hp m f r)(B:Ce f t=some (.ptr i o):=by exact rfl)(J:Nat.blt i m=true:=by exact rfl):FrLe hp m f ((t,.ptr i o)::r):=FrLe.cons B (AVle.ptr J) h
end
variable{H:List Ow}
theorem Po(q:HO H h=some r)(A:One H h:=by first | exact CP rfl | exact One.sl | exact One.ep):PartOk H h [r]:=PartOk.one q A
def Ab0:List Oper->List (List Nat)->Nat->List (List Nat)
 |[],R,_=>R
 |o::l,R,i=>Ab0 l (R++[(List.range i).filter λj=>(Bw o).any λe=>Nat.beq e j||(R.getD e []).any (Nat.beq j)]) (i+1)
variable{vf:List Oper}
theorem Dy {s0 : An} {Q : Exit → AS → Prop} {q : List (Nat × AV)} {id : Nat} (m : Nat) (h : HS P ⟨q, H⟩ (fun A => ∃ y, WU q H m vf A = some y ∧ AWl P s0 n vf.toArray Q (vf.drop m) y) [] vf (Ho (vf.take m))) (v : P.follows .mixedOrders = true := by kernel_rfl) (I : (Ho (vf.take m)).length = m := by kernel_rfl) (o : ((Ho (vf.take m)).length == (Ab0 (vf.take m) [] 0).length && Nat.ble (Ho (vf.take m)).length vf.length) = true := by kernel_rfl) (C : Ee vf (Gq 0 (Ho (vf.take m)) (Ab0 (vf.take m) [] 0)) = true := by kernel_rfl) (d : Ia vf m n = true := by kernel_rfl) (O : Oc 0 vf (Ho (vf.take m)) = true := by kernel_rfl) : AWp P s0 n (.region id vf.toArray true) Q ⟨q, H⟩ :=
 Ry (Fc v) (Ho (vf.take m)) _ o C (by rw[I];exact d) O (by rw[I];exact h)
variable{uN:List Oper}
theorem K4{e:Nat}{a b c d:Oper}(h:AddE e vf uN):AddE e (a::b::c::d::vf) (a::b::c::d::uN):=.keep (.keep (.keep (.keep h)))
def A2U(F:List Ow)(arg:Operand->AV):List Operand->Option (List D)
 |[]=>some []
 |x::l=>match HO F (arg x),A2U F arg l with
  |some d,some S=>some (d::S)
  |_,_=>none
theorem Zs{F:List Ow}{arg:Operand->AV}:∀{l:List Operand} {S:List D},A2U F arg l=some S->ArgsLe F arg l S
 |[],S,h=>by cases h;exact ArgsLe.nil
 |x::l,S,h=>by
  unfold A2U at h;split at h
  .rename_i d p q A
   cases h;exact ArgsLe.cons q (D.le.refl _) (Zs A)
  .cases h
section
variable {P:Program} {hp:List Ow} {arg:Operand->AV} {dd:Option Tmp} {ty:TypeId} {ps:String} {af:Array Edge} {gd:Option (Nat×Bool)}
variable{vt:Array TypeId}{vd:FuncId}{v:List D}{vP:List Operand}{x:Operand}
theorem Tq(p:arg x=.d (ex (.func (.func vd) #[] #[])))(d:A2U hp arg vP=some v)(G:Abs P vd v r):Quiet P hp ⟨dd,.call { callee:=.value x,args:=vP.toArray,argTypes:=vt },ty,ps,af,gd⟩ arg (.d r):=BO p G (Zs d)
end
structure HQ(q:Prop):Prop where
 a:q
theorem GoQ{p q:Prop}(k:q)(h:HQ q->p:=by intro m;(first | (apply Gx;refine⟨_,AG (ao rfl),?_⟩) | (apply GP;refine⟨_,Bm (ao rfl),?_⟩) | (apply Rx;first | refine⟨_,Mc (ao rfl) rfl (Aa rfl) rfl rfl,?_⟩ | refine⟨_,BU (ao rfl) rfl (Aa rfl) rfl rfl,?_⟩ | refine⟨_,Ko (ao rfl) rfl (Aa rfl) rfl rfl,?_⟩ | refine⟨_,MI (ao rfl) (Aa rfl) rfl rfl,?_⟩ | refine⟨_,Tp (ao rfl) (Aa rfl) rfl rfl,?_⟩ | refine⟨_,Gv (ao rfl) (Aa rfl) rfl rfl,?_⟩ | refine⟨_,MJ (ao rfl) rfl (Aa rfl) rfl (JB ZbQ),?_⟩ | refine⟨_,Ie (ao rfl) (Aa rfl) rfl (If ZbQ),?_⟩) | (apply Gt.index;refine⟨_,Gw (ao rfl) (ao rfl) (Aa rfl) (Aa rfl) rfl ZbQ (CellAt.mon ZbQ),?_⟩) | (apply IC;first | refine⟨_,Rt (ao rfl) (Aa rfl) rfl (Aa rfl) rfl rfl,?_⟩ | refine⟨_,Iz (ao rfl) (Aa rfl) rfl (Aa rfl) rfl,?_⟩) | (apply OM;first | refine⟨_,II rfl (ao rfl) (Aa rfl) (Aa rfl) rfl,?_⟩ | refine⟨_,CE rfl (ao rfl) (Aa rfl) (Aa rfl) rfl ZbQ,?_⟩ | refine⟨_,HD rfl (ao rfl) (Aa rfl) (Aa rfl) rfl rfl ZbC,?_⟩ | refine⟨_,Nx (ao rfl) (ao rfl) (Aa rfl) (Aa rfl) ZbQ,?_⟩ | refine⟨_,Md (ao rfl) (ao rfl) (Aa rfl) (Aa rfl) ZbQ,?_⟩ | refine⟨_,Xu (ao rfl) (ao rfl) (Aa rfl) (Aa rfl) ZbH ZbH rfl,?_⟩ | refine⟨_,Rr (ao rfl) (ao rfl) (Aa rfl) (Aa rfl) ZbH ZbH,?_⟩ | refine⟨_,MK (ao rfl) (ao rfl) (Aa rfl) (Aa rfl) ZbQ,?_⟩) | (apply A7j;first | refine⟨_,Kp rfl (ao rfl) (Aa rfl) (Aa rfl) rfl ZbQ,?_⟩ | refine⟨_,Ic rfl (ao rfl) (Aa rfl) (Aa rfl) rfl ZbQ,?_⟩) | (apply A1N;first | refine⟨_,Bh rfl (Aa rfl),?_⟩ | refine⟨_,Rq (ao rfl) (Aa rfl),?_⟩ | refine⟨_,A1E rfl (Aa rfl),?_⟩) | (apply A1O;first | refine⟨_,HU (ao rfl) (ao rfl) ZbC,?_⟩ | refine⟨_,OG (ao rfl) (ao rfl) ZbC,?_⟩ | refine⟨_,PW (ao rfl) (ao rfl) ZbC ZbC,?_⟩) | (apply A7i;first | refine⟨_,Jy (ao rfl) (ao rfl) ZbC ZbC,?_⟩ | refine⟨_,PP (ao rfl) (ao rfl) ZbC ZbC,?_⟩) | (apply Gt.mul;refine⟨_,Xr (ao rfl) (ao rfl) ZbC ZbC,?_⟩) | (apply Abg;refine⟨_,Xm (ao rfl) (ao rfl) ZbC ZbC ZbC,?_⟩) | (apply A7k;first | refine⟨_,Tl (ao rfl) (ao rfl) ZbC ZbC,?_⟩ | refine⟨_,Rp (ao rfl) (ao rfl) ZbH,?_⟩) | (apply AcF;refine⟨_,A1C (ao rfl) (ao rfl) ZbQ ZbQ,?_⟩) | (apply Jf;first | refine⟨_,Hk rfl (ao rfl) (ao rfl) ZbN,?_⟩ | refine⟨_,IA rfl (ao rfl) (ao rfl) ZbN,?_⟩ | refine⟨_,Xw (ao rfl) (ao rfl) rfl,?_⟩ | refine⟨_,PT (ao rfl) (ao rfl) ZcE,?_⟩ | refine⟨_,PU (ao rfl) (ao rfl) ZcE,?_⟩ | refine⟨_,PR (ao rfl) (ao rfl) ZcE,?_⟩ | refine⟨_,PS (ao rfl) (ao rfl) ZcE,?_⟩ | refine⟨_,Me (ao rfl) (ao rfl),?_⟩ | refine⟨_,Ma (ao rfl) (ao rfl),?_⟩ | refine⟨_,PV (ao rfl) (ao rfl) ZbG,?_⟩ | refine⟨_,MH (ao rfl) (ao rfl) ZbG,?_⟩) | (apply AcE;first | refine⟨_,Xp (ao rfl),?_⟩ | refine⟨_,Tn (ao rfl) ZbC ZbC,?_⟩) | (apply Abh;refine⟨_,A1D (ao rfl) (ao rfl),?_⟩) | (apply Gt.min;refine⟨_,Xs (ao rfl) (ao rfl),?_⟩) | (apply Abi;refine⟨_,Xv (ao rfl) rfl,?_⟩) | (apply OL;first | refine⟨_,Id (ao rfl) (ao rfl),?_⟩ | refine⟨_,Kn (ao rfl) (ao rfl),?_⟩ | refine⟨_,OI (ao rfl) (ao rfl) (ao rfl),?_⟩ | refine⟨_,OH (ao rfl) (ao rfl) (ao rfl),?_⟩) | (apply A4v;first | refine⟨_,Cb (ao rfl) (Aa rfl) (Aa rfl) rfl rfl rfl rfl rfl,?_⟩ | (refine Dc (Aa rfl) (Aa rfl) rfl rfl rfl rfl rfl ?_;(repeat ((first | refine⟨_,Ar (ao rfl),?_⟩ | refine⟨_,Po rfl,?_⟩);refine⟨_,rfl,?_⟩));refine⟨_,rfl,?_⟩)) | (apply A97;first | refine⟨_,Ge (ao rfl) (Aa rfl) (Aa rfl) ZbC ZbC,?_⟩ | refine⟨_,Ru (ao rfl) (Aa rfl) (Aa rfl),?_⟩) | (apply ZR;first | (refine AI (Aa rfl) rfl rfl rfl ?_;(repeat ((first | refine⟨_,Ar (ao rfl),?_⟩ | refine⟨_,Po rfl,?_⟩);refine⟨_,rfl,?_⟩));refine⟨_,rfl,?_⟩) | (refine Mh (Aa rfl) (Aa rfl) rfl rfl ?_;(repeat ((first | refine⟨_,Ar (ao rfl),?_⟩ | refine⟨_,Po rfl,?_⟩);refine⟨_,rfl,?_⟩));refine⟨_,rfl,?_⟩)) | (apply ZQ;first | refine⟨_,Tq (ao rfl) rfl ZcE,?_⟩ | refine⟨_,BO (ao rfl) ZcE ZbU,?_⟩));exact m.a):p:=h ⟨k⟩
theorem Go{p q:Prop}(k:q)(h:HQ q->p:=by intro m;(repeat (first | apply Ah | apply AWp.region | (apply ZS;refine Al ?_) | (apply Tu;first | refine Sf ?_ | refine XF (ao rfl) (ao rfl) rfl (Aa rfl) rfl rfl rfl ?_ | refine Dg (ao rfl) (ao rfl) rfl (Aa rfl) ZbS rfl rfl ?_ | refine Mj (ao rfl) (ao rfl) rfl (Aa rfl) ZbS (SetAt.mon ZbQ) rfl ?_) | (apply A7s;first | refine Bx ?_ | refine XG (ao rfl) rfl rfl rfl rfl rfl ?_) | (apply Abk;first | refine Ap ?_ | refine EC (ao rfl) rfl rfl (Aa rfl) (Aa rfl) rfl rfl ZcA ZcA rfl ZbI rfl ?_) | (apply A9L;refine TD (Aa rfl) (Aa rfl) rfl rfl rfl rfl rfl ?_) | (apply AcG;refine A9d (ao rfl) (ao rfl) (Aa rfl) (Aa rfl) ZbC ZbC rfl rfl rfl rfl rfl rfl ?_) | (refine De rfl rfl ?_;refine GoQ ?_) | refine TC rfl rfl rfl rfl rfl ?_ | (refine Qc rfl rfl rfl rfl rfl ?_;refine GoQ ?_) | apply OnlyN.mk' | apply AWl.nil | apply Yn | apply AWp.block | apply Hl | apply Cc | apply BR | apply Dv | apply Bz | apply Bg | apply DX | apply BE | apply IJ | apply BM | refine A02 rfl ?_ | (apply KV;first | refine Ct ?_ | refine Cf ?_ | refine JC (ao rfl) (Yal ZbC) ?_ | refine Ig (ao rfl) (Yad ZbC) ?_ | refine JC (ao rfl) ZcE ?_ | refine Ig (ao rfl) ZcE ?_ | refine JC (ao rfl) (by first | (simp;done) | fail) ?_ | refine Ig (ao rfl) (by first | (simp;done) | fail) ?_ | refine JC (ao rfl) ZiI ?_ | refine Ig (ao rfl) ZiI ?_)));exact m.a):p:=h ⟨k⟩
theorem DA{p q:Prop}(k:q)(h:HQ q->p:=by intro m;(repeat (first | refine⟨_,rfl,?_⟩ | (apply A7p;refine⟨_,HStep.n rfl (Aa rfl) rfl ZbH rfl,?_⟩;refine⟨_,rfl,?_⟩) | (apply XA;(refine Xq (AG (ah rfl)) ?_)) | (apply Vq;(refine Xq (Bm (ah rfl)) ?_)) | (apply XB;first | (refine Xq (Mc (ah rfl) rfl (Aa rfl) rfl rfl) ?_) | (refine Xq (BU (ah rfl) rfl (Aa rfl) rfl rfl) ?_) | (refine Xq (Ko (ah rfl) rfl (Aa rfl) rfl rfl) ?_) | (refine Xq (MI (ah rfl) (Aa rfl) rfl rfl) ?_) | (refine Xq (Tp (ah rfl) (Aa rfl) rfl rfl) ?_) | (refine Xq (Gv (ah rfl) (Aa rfl) rfl rfl) ?_) | (refine Xq (MJ (ah rfl) rfl (Aa rfl) rfl (JB ZbQ)) ?_) | (refine Xq (Ie (ah rfl) (Aa rfl) rfl (If ZbQ)) ?_)) | (apply Gh.index;(refine Xq (Gw (ah rfl) (ah rfl) (Aa rfl) (Aa rfl) rfl ZbQ (CellAt.mon ZbQ)) ?_)) | (apply KU;first | (refine Xq (Rt (ah rfl) (Aa rfl) rfl (Aa rfl) rfl rfl) ?_) | (refine Xq (Iz (ah rfl) (Aa rfl) rfl (Aa rfl) rfl) ?_)) | (apply KT;first | (refine Xq (II rfl (ah rfl) (Aa rfl) (Aa rfl) rfl) ?_) | (refine Xq (CE rfl (ah rfl) (Aa rfl) (Aa rfl) rfl ZbQ) ?_) | (refine Xq (HD rfl (ah rfl) (Aa rfl) (Aa rfl) rfl rfl ZbC) ?_) | (refine Xq (Nx (ah rfl) (ah rfl) (Aa rfl) (Aa rfl) ZbQ) ?_) | (refine Xq (Md (ah rfl) (ah rfl) (Aa rfl) (Aa rfl) ZbQ) ?_) | (refine Xq (Xu (ah rfl) (ah rfl) (Aa rfl) (Aa rfl) ZbH ZbH rfl) ?_) | (refine Xq (Rr (ah rfl) (ah rfl) (Aa rfl) (Aa rfl) ZbH ZbH) ?_) | (refine Xq (MK (ah rfl) (ah rfl) (Aa rfl) (Aa rfl) ZbQ) ?_)) | (apply Gh.slice;first | (refine Xq (Kp rfl (ah rfl) (Aa rfl) (Aa rfl) rfl ZbQ) ?_) | (refine Xq (Ic rfl (ah rfl) (Aa rfl) (Aa rfl) rfl ZbQ) ?_)) | (apply A7m;first | (refine Xq (Bh rfl (Aa rfl)) ?_) | (refine Xq (Rq (ah rfl) (Aa rfl)) ?_) | (refine Xq (A1E rfl (Aa rfl)) ?_)) | (apply A7q;first | (refine Xq (HU (ah rfl) (ah rfl) ZbC) ?_) | (refine Xq (OG (ah rfl) (ah rfl) ZbC) ?_) | (refine Xq (PW (ah rfl) (ah rfl) ZbC ZbC) ?_)) | (apply A7l;first | (refine Xq (Jy (ah rfl) (ah rfl) ZbC ZbC) ?_) | (refine Xq (PP (ah rfl) (ah rfl) ZbC ZbC) ?_)) | (apply Gh.mul;(refine Xq (Xr (ah rfl) (ah rfl) ZbC ZbC) ?_)) | (apply Gh.quo;(refine Xq (Xm (ah rfl) (ah rfl) ZbC ZbC ZbC) ?_)) | (apply A1Q;first | (refine Xq (Tl (ah rfl) (ah rfl) ZbC ZbC) ?_) | (refine Xq (Rp (ah rfl) (ah rfl) ZbH) ?_)) | (apply Gh.or;(refine Xq (A1C (ah rfl) (ah rfl) ZbQ ZbQ) ?_)) | (apply A7o;first | (refine Xq (Hk rfl (ah rfl) (ah rfl) ZbN) ?_) | (refine Xq (IA rfl (ah rfl) (ah rfl) ZbN) ?_) | (refine Xq (Xw (ah rfl) (ah rfl) rfl) ?_) | (refine Xq (PT (ah rfl) (ah rfl) ZcE) ?_) | (refine Xq (PU (ah rfl) (ah rfl) ZcE) ?_) | (refine Xq (PR (ah rfl) (ah rfl) ZcE) ?_) | (refine Xq (PS (ah rfl) (ah rfl) ZcE) ?_) | (refine Xq (Me (ah rfl) (ah rfl)) ?_) | (refine Xq (Ma (ah rfl) (ah rfl)) ?_) | (refine Xq (PV (ah rfl) (ah rfl) ZbG) ?_) | (refine Xq (MH (ah rfl) (ah rfl) ZbG) ?_)) | (apply A9K;first | (refine Xq (Xp (ah rfl)) ?_) | (refine Xq (Tn (ah rfl) ZbC ZbC) ?_)) | (apply Gh.max;(refine Xq (A1D (ah rfl) (ah rfl)) ?_)) | (apply Gh.min;(refine Xq (Xs (ah rfl) (ah rfl)) ?_)) | (apply A7n;(refine Xq (Xv (ah rfl) rfl) ?_)) | (apply A31;first | (refine Xq (Id (ah rfl) (ah rfl)) ?_) | (refine Xq (Kn (ah rfl) (ah rfl)) ?_) | (refine Xq (OI (ah rfl) (ah rfl) (ah rfl)) ?_) | (refine Xq (OH (ah rfl) (ah rfl) (ah rfl)) ?_)) | (apply Qb;first | (refine Xq (Cb (ah rfl) (Aa rfl) (Aa rfl) rfl rfl rfl rfl rfl) ?_) | (refine Hq rfl ?_;refine Dc (Aa rfl) (Aa rfl) rfl rfl rfl rfl rfl ?_;(repeat ((first | refine⟨_,Ar (ah rfl),?_⟩ | refine⟨_,Po rfl,?_⟩);refine⟨_,rfl,?_⟩));refine⟨_,rfl,?_⟩;refine⟨_,rfl,?_⟩)) | (apply XC;first | (refine Xq (Ge (ah rfl) (Aa rfl) (Aa rfl) ZbC ZbC) ?_) | (refine Xq (Ru (ah rfl) (Aa rfl) (Aa rfl)) ?_)) | (apply Tt;first | (refine Hq rfl ?_;refine AI (Aa rfl) rfl rfl rfl ?_;(repeat ((first | refine⟨_,Ar (ah rfl),?_⟩ | refine⟨_,Po rfl,?_⟩);refine⟨_,rfl,?_⟩));refine⟨_,rfl,?_⟩;refine⟨_,rfl,?_⟩) | (refine Hq rfl ?_;refine Mh (Aa rfl) (Aa rfl) rfl rfl ?_;(repeat ((first | refine⟨_,Ar (ah rfl),?_⟩ | refine⟨_,Po rfl,?_⟩);refine⟨_,rfl,?_⟩));refine⟨_,rfl,?_⟩;refine⟨_,rfl,?_⟩)) | (apply Ts;first | (refine Xq (Tq (ah rfl) rfl ZcE) ?_) | (refine Xq (BO (ah rfl) ZcE ZbU) ?_)) | (refine⟨_,A7h rfl rfl rfl,?_⟩;refine⟨_,rfl,?_⟩) | (apply XA;(refine⟨_,AZ rfl rfl (AG (ah rfl)),?_⟩;refine⟨_,rfl,?_⟩)) | (apply Vq;(refine⟨_,AZ rfl rfl (Bm (ah rfl)),?_⟩;refine⟨_,rfl,?_⟩)) | (apply XB;first | (refine⟨_,AZ rfl rfl (Mc (ah rfl) rfl (Aa rfl) rfl rfl),?_⟩;refine⟨_,rfl,?_⟩) | (refine⟨_,AZ rfl rfl (BU (ah rfl) rfl (Aa rfl) rfl rfl),?_⟩;refine⟨_,rfl,?_⟩) | (refine⟨_,AZ rfl rfl (Ko (ah rfl) rfl (Aa rfl) rfl rfl),?_⟩;refine⟨_,rfl,?_⟩) | (refine⟨_,AZ rfl rfl (MI (ah rfl) (Aa rfl) rfl rfl),?_⟩;refine⟨_,rfl,?_⟩) | (refine⟨_,AZ rfl rfl (Tp (ah rfl) (Aa rfl) rfl rfl),?_⟩;refine⟨_,rfl,?_⟩) | (refine⟨_,AZ rfl rfl (Gv (ah rfl) (Aa rfl) rfl rfl),?_⟩;refine⟨_,rfl,?_⟩) | (refine⟨_,AZ rfl rfl (MJ (ah rfl) rfl (Aa rfl) rfl (JB ZbQ)),?_⟩;refine⟨_,rfl,?_⟩) | (refine⟨_,AZ rfl rfl (Ie (ah rfl) (Aa rfl) rfl (If ZbQ)),?_⟩;refine⟨_,rfl,?_⟩)) | (apply Gh.index;(refine⟨_,AZ rfl rfl (Gw (ah rfl) (ah rfl) (Aa rfl) (Aa rfl) rfl ZbQ (CellAt.mon ZbQ)),?_⟩;refine⟨_,rfl,?_⟩)) | (apply KU;first | (refine⟨_,AZ rfl rfl (Rt (ah rfl) (Aa rfl) rfl (Aa rfl) rfl rfl),?_⟩;refine⟨_,rfl,?_⟩) | (refine⟨_,AZ rfl rfl (Iz (ah rfl) (Aa rfl) rfl (Aa rfl) rfl),?_⟩;refine⟨_,rfl,?_⟩)) | (apply KT;first | (refine⟨_,AZ rfl rfl (II rfl (ah rfl) (Aa rfl) (Aa rfl) rfl),?_⟩;refine⟨_,rfl,?_⟩) | (refine⟨_,AZ rfl rfl (CE rfl (ah rfl) (Aa rfl) (Aa rfl) rfl ZbQ),?_⟩;refine⟨_,rfl,?_⟩) | (refine⟨_,AZ rfl rfl (HD rfl (ah rfl) (Aa rfl) (Aa rfl) rfl rfl ZbC),?_⟩;refine⟨_,rfl,?_⟩) | (refine⟨_,AZ rfl rfl (Nx (ah rfl) (ah rfl) (Aa rfl) (Aa rfl) ZbQ),?_⟩;refine⟨_,rfl,?_⟩) | (refine⟨_,AZ rfl rfl (Md (ah rfl) (ah rfl) (Aa rfl) (Aa rfl) ZbQ),?_⟩;refine⟨_,rfl,?_⟩) | (refine⟨_,AZ rfl rfl (Xu (ah rfl) (ah rfl) (Aa rfl) (Aa rfl) ZbH ZbH rfl),?_⟩;refine⟨_,rfl,?_⟩) | (refine⟨_,AZ rfl rfl (Rr (ah rfl) (ah rfl) (Aa rfl) (Aa rfl) ZbH ZbH),?_⟩;refine⟨_,rfl,?_⟩) | (refine⟨_,AZ rfl rfl (MK (ah rfl) (ah rfl) (Aa rfl) (Aa rfl) ZbQ),?_⟩;refine⟨_,rfl,?_⟩)) | (apply Gh.slice;first | (refine⟨_,AZ rfl rfl (Kp rfl (ah rfl) (Aa rfl) (Aa rfl) rfl ZbQ),?_⟩;refine⟨_,rfl,?_⟩) | (refine⟨_,AZ rfl rfl (Ic rfl (ah rfl) (Aa rfl) (Aa rfl) rfl ZbQ),?_⟩;refine⟨_,rfl,?_⟩)) | (apply A7m;first | (refine⟨_,AZ rfl rfl (Bh rfl (Aa rfl)),?_⟩;refine⟨_,rfl,?_⟩) | (refine⟨_,AZ rfl rfl (Rq (ah rfl) (Aa rfl)),?_⟩;refine⟨_,rfl,?_⟩) | (refine⟨_,AZ rfl rfl (A1E rfl (Aa rfl)),?_⟩;refine⟨_,rfl,?_⟩)) | (apply A7q;first | (refine⟨_,AZ rfl rfl (HU (ah rfl) (ah rfl) ZbC),?_⟩;refine⟨_,rfl,?_⟩) | (refine⟨_,AZ rfl rfl (OG (ah rfl) (ah rfl) ZbC),?_⟩;refine⟨_,rfl,?_⟩) | (refine⟨_,AZ rfl rfl (PW (ah rfl) (ah rfl) ZbC ZbC),?_⟩;refine⟨_,rfl,?_⟩)) | (apply A7l;first | (refine⟨_,AZ rfl rfl (Jy (ah rfl) (ah rfl) ZbC ZbC),?_⟩;refine⟨_,rfl,?_⟩) | (refine⟨_,AZ rfl rfl (PP (ah rfl) (ah rfl) ZbC ZbC),?_⟩;refine⟨_,rfl,?_⟩)) | (apply Gh.mul;(refine⟨_,AZ rfl rfl (Xr (ah rfl) (ah rfl) ZbC ZbC),?_⟩;refine⟨_,rfl,?_⟩)) | (apply Gh.quo;(refine⟨_,AZ rfl rfl (Xm (ah rfl) (ah rfl) ZbC ZbC ZbC),?_⟩;refine⟨_,rfl,?_⟩)) | (apply A1Q;first | (refine⟨_,AZ rfl rfl (Tl (ah rfl) (ah rfl) ZbC ZbC),?_⟩;refine⟨_,rfl,?_⟩) | (refine⟨_,AZ rfl rfl (Rp (ah rfl) (ah rfl) ZbH),?_⟩;refine⟨_,rfl,?_⟩)) | (apply Gh.or;(refine⟨_,AZ rfl rfl (A1C (ah rfl) (ah rfl) ZbQ ZbQ),?_⟩;refine⟨_,rfl,?_⟩)) | (apply A7o;first | (refine⟨_,AZ rfl rfl (Hk rfl (ah rfl) (ah rfl) ZbN),?_⟩;refine⟨_,rfl,?_⟩) | (refine⟨_,AZ rfl rfl (IA rfl (ah rfl) (ah rfl) ZbN),?_⟩;refine⟨_,rfl,?_⟩) | (refine⟨_,AZ rfl rfl (Xw (ah rfl) (ah rfl) rfl),?_⟩;refine⟨_,rfl,?_⟩) | (refine⟨_,AZ rfl rfl (PT (ah rfl) (ah rfl) ZcE),?_⟩;refine⟨_,rfl,?_⟩) | (refine⟨_,AZ rfl rfl (PU (ah rfl) (ah rfl) ZcE),?_⟩;refine⟨_,rfl,?_⟩) | (refine⟨_,AZ rfl rfl (PR (ah rfl) (ah rfl) ZcE),?_⟩;refine⟨_,rfl,?_⟩) | (refine⟨_,AZ rfl rfl (PS (ah rfl) (ah rfl) ZcE),?_⟩;refine⟨_,rfl,?_⟩) | (refine⟨_,AZ rfl rfl (Me (ah rfl) (ah rfl)),?_⟩;refine⟨_,rfl,?_⟩) | (refine⟨_,AZ rfl rfl (Ma (ah rfl) (ah rfl)),?_⟩;refine⟨_,rfl,?_⟩) | (refine⟨_,AZ rfl rfl (PV (ah rfl) (ah rfl) ZbG),?_⟩;refine⟨_,rfl,?_⟩) | (refine⟨_,AZ rfl rfl (MH (ah rfl) (ah rfl) ZbG),?_⟩;refine⟨_,rfl,?_⟩)) | (apply A9K;first | (refine⟨_,AZ rfl rfl (Xp (ah rfl)),?_⟩;refine⟨_,rfl,?_⟩) | (refine⟨_,AZ rfl rfl (Tn (ah rfl) ZbC ZbC),?_⟩;refine⟨_,rfl,?_⟩)) | (apply Gh.max;(refine⟨_,AZ rfl rfl (A1D (ah rfl) (ah rfl)),?_⟩;refine⟨_,rfl,?_⟩)) | (apply Gh.min;(refine⟨_,AZ rfl rfl (Xs (ah rfl) (ah rfl)),?_⟩;refine⟨_,rfl,?_⟩)) | (apply A7n;(refine⟨_,AZ rfl rfl (Xv (ah rfl) rfl),?_⟩;refine⟨_,rfl,?_⟩)) | (apply A31;first | (refine⟨_,AZ rfl rfl (Id (ah rfl) (ah rfl)),?_⟩;refine⟨_,rfl,?_⟩) | (refine⟨_,AZ rfl rfl (Kn (ah rfl) (ah rfl)),?_⟩;refine⟨_,rfl,?_⟩) | (refine⟨_,AZ rfl rfl (OI (ah rfl) (ah rfl) (ah rfl)),?_⟩;refine⟨_,rfl,?_⟩) | (refine⟨_,AZ rfl rfl (OH (ah rfl) (ah rfl) (ah rfl)),?_⟩;refine⟨_,rfl,?_⟩)) | (apply Qb;first | (refine⟨_,AZ rfl rfl (Cb (ah rfl) (Aa rfl) (Aa rfl) rfl rfl rfl rfl rfl),?_⟩;refine⟨_,rfl,?_⟩) | (refine HqG rfl rfl ?_;refine Dc (Aa rfl) (Aa rfl) rfl rfl rfl rfl rfl ?_;(repeat ((first | refine⟨_,Ar (ah rfl),?_⟩ | refine⟨_,Po rfl,?_⟩);refine⟨_,rfl,?_⟩));refine⟨_,rfl,?_⟩;refine⟨_,rfl,?_⟩)) | (apply XC;first | (refine⟨_,AZ rfl rfl (Ge (ah rfl) (Aa rfl) (Aa rfl) ZbC ZbC),?_⟩;refine⟨_,rfl,?_⟩) | (refine⟨_,AZ rfl rfl (Ru (ah rfl) (Aa rfl) (Aa rfl)),?_⟩;refine⟨_,rfl,?_⟩)) | (apply Tt;first | (refine HqG rfl rfl ?_;refine AI (Aa rfl) rfl rfl rfl ?_;(repeat ((first | refine⟨_,Ar (ah rfl),?_⟩ | refine⟨_,Po rfl,?_⟩);refine⟨_,rfl,?_⟩));refine⟨_,rfl,?_⟩;refine⟨_,rfl,?_⟩) | (refine HqG rfl rfl ?_;refine Mh (Aa rfl) (Aa rfl) rfl rfl ?_;(repeat ((first | refine⟨_,Ar (ah rfl),?_⟩ | refine⟨_,Po rfl,?_⟩);refine⟨_,rfl,?_⟩));refine⟨_,rfl,?_⟩;refine⟨_,rfl,?_⟩)) | (apply Ts;first | (refine⟨_,AZ rfl rfl (Tq (ah rfl) rfl ZcE),?_⟩;refine⟨_,rfl,?_⟩) | (refine⟨_,AZ rfl rfl (BO (ah rfl) ZcE ZbU),?_⟩;refine⟨_,rfl,?_⟩))));exact m.a):p:=h ⟨k⟩
variable{vp:Code}{vb:List (Nat×AV)}{vA:List Ow}{b:Nat}
theorem EK{s0:An}{Q:Exit->AS->Prop}(t T l:Nat)(h:Ce vb t=some (.d (eS)))(e:T≠335)(c:0<l)(v:Ik H=some b)(C:Gp H (.row T l [])=some vA)(k:AWp P s0 n vp Q ⟨(t,.own b)::vb,vA⟩):AWp P s0 n vp Q ⟨vb,H⟩:=by
 rw[Fi C]at k;obtain rfl:=FX v;refine⟨λa w ⟨s,V,G,u⟩=>?_⟩;have r:a.tmps.getD t undef=.slice none 0 0:=u.fr t _ h
 have O:t<a.tmps.size:=by
  rcases YaI t a.tmps.size with A | A
  .exact A
  .simp [A,undef]at r
 have R:a.tmps[t]? = some (.slice none 0 0):=by
  rw[YaA,YaF O]at r;rw[YaF O];exact congrArg some r
 have p:a.put (some t) (.slice none 0 0)=a:=by
  unfold Act.put
  have:a.tmps.setIfInBounds t (.slice none 0 0)=a.tmps:=by
   apply YdE;intro i;by_cases J:t=i
   .subst J;rw[R];simp[O]
   .rw [YaP J]
  simp only[this]
 have := u.new (GS.Le.refl s) (dst := some t) (v := .slice none 0 0) (u := .slice none 0 0) (r := .own H.length) (ow := .row T l []) (fun d F => by cases F; rw [← u.sz]; exact O) ⟨YeH _, by simp⟩
  ⟨[],by simp only[Yao];exact⟨by simp,.inl ⟨rfl,rfl⟩⟩,e,c,λq E=>by simp[DR]at E,λk B=>absurd B (Ybj k)⟩ (λq E=>by cases E)
 rw[p]at this;exact k.run a w ⟨s,_,G,this⟩
theorem IG(b:Bool)(l:List Nat):Abs prog 239 [eB b,wD l] (AP (Cr (Ku b (val l)))):=by
 refine BI (Ag func239 ZbG ZbG) λs J C I r=>?_;rw[vs2 I];have n:J.getD 0 undef=.bool b:=r 0 ZbR;rw[n];exact(IH b _ l s.w (Et (r 1 ZbR))).mono λe N ⟨y,Y,m,k,q,A,Z⟩=>⟨_,q,Z,λj c B _ _=>by subst c;exact HN B A⟩
variable{vd:FuncId}{l g vo:List Nat}
theorem A0b(A:∀args w,(callFunc vd args).run prog w=.ok (.enter vd args) w)(h:∀(q a:Value) (w:World),Words w q l->Words w a g->Calls prog vd #[q,a] w λe N=>∃X,e=.returned X/\Words N X vo/\Ext w N):Abs prog vd [wD l,wD g] (wD vo):=by
 refine BI A λs J C I r=>?_;rw[vs2 I];exact(h _ _ s.w (Et (r 0 ZbR)) (Et (r 1 ZbR))).mono λe N ⟨v,b,m,Z⟩=>⟨_,b,Z,λj c n _ _=>by subst c;exact JM n m⟩
theorem A3b(x y:Nat)(g:(Aw x).length<=4398046511104)(v:(Aw y).length<=4398046511104):Abs prog 278 [wD (Aw x),wD (Aw y)] (wD (Aw (x*y))):=
 A0b (Ag func278 ZbG ZbG) fun s a w t E => by
  have:=KP s a _ _ w t E g v;rwa [AK,AK]at this
theorem A40(x y:Nat)(g:(Aw x).length<=4398046511104)(v:(Aw y).length<=4398046511104):Abs prog 275 [wD (Aw x),wD (Aw y)] (wD (Aw (x+y))):=
 A0b (Ag func275 ZbG ZbG) fun s a w t E => by
  have:=A1h s a _ _ w t E g v;rwa [AK,AK]at this
theorem Uu(x y:Nat)(h:y<=x)(g:(Aw x).length<=4398046511104):Abs prog 277 [wD (Aw x),wD (Aw y)] (wD (Aw (x-y))):=
 A0b (Ag func277 ZbG ZbG) fun s a w t E => by
  have:=A1e s a _ _ w t E (by rw[AK,AK];exact h) (BP h) g;rwa [AK,AK]at this
theorem Zd(x y:Nat)(g:(Aw x).length<=4398046511103)(E:y≠0):Abs prog 282 [wD (Aw x),wD (Aw y)] (FA [wD (Aw (x/y)),wD (Aw (x%y))]):=by
 refine BI (Ag func282 ZbG ZbG) λs J F I r=>?_;rw[vs2 I];refine(KR _ _ x y s.w (Et (r 0 ZbR)) (Et (r 1 ZbR)) g E).mono λe N ⟨A,O,n,c,h,l,b,q,B,Z⟩=>⟨_,b,Z,λj G K _ _=>?_⟩;subst G;refine⟨_,rfl,rfl,λk C=>?_⟩;have C:k<2:=C
 match k,C with
 |0,_=>exact⟨_,rfl,JM K q⟩
 |1,_=>exact⟨_,rfl,JM K B⟩
theorem Hz(x y:Int)(g:(Aw x.natAbs).length<=4398046511104)(l:(Aw y.natAbs).length<=4398046511104):Abs prog 215 [AP (Cr x),AP (Cr y)] (AP (Cr (x*y))):=by
 have c:=IG (decide (x<0) != decide (y<0)) (Aw (x.natAbs*y.natAbs));rw[AK,show Ku (decide (x<0) != decide (y<0)) (x.natAbs*y.natAbs)=x*y from VJ x y]at c;refine Ab func215 λq=>?_;rw[ntmps215];apply Y1;refine Bx ?_;refine Bx ?_;refine Al ?_;refine Y0<|Ah ?_
 refine Dy 11 ?_;refine Xq AB ?_;refine Xq As ?_;refine Xq AB ?_;refine Xq As ?_;refine Xq A4h ?_;refine Xq AB ?_;refine Xq As ?_;refine Xq AB ?_;refine Xq As ?_;refine Xq (AJ (A3b x.natAbs y.natAbs g l)) ?_;refine Xq (AJ (c)) ?_;refine⟨_,rfl,?_⟩;refine Sf ?_;refine Y0<|BR ?_
 exact Zkg
theorem A3A(x:Int):Abs prog 279 [AP (Cr x)] (AP (Cr (-x))):=by
 have c:=IG (!decide (x<0)) (Aw x.natAbs);rw[AK,A2i]at c;refine Ab func279 λy=>?_;rw[ntmps279];exact ZfF
theorem A3B(x y:Int)(g:(Aw x.natAbs).length<=4398046511104)(l:(Aw y.natAbs).length<=4398046511104):Abs prog 214 [AP (Cr x),AP (Cr y)] (AP (Cr (x+y))):=by
 have N:=IG (decide (x<0));have n:=IG (decide (y<0));by_cases h:decide (x<0)=decide (y<0)
 .have E:(decide (x<0)==decide (y<0))=true:=by simp [h]
  have c:=N (Aw (x.natAbs+y.natAbs));rw[AK,VK h]at c;refine Ab func214 λq=>?_;rw[ntmps214];refine Go ?_;refine Dy 8 ?_;have U:=A40 x.natAbs y.natAbs g l;exact ZjA
 .have E:(decide (x<0)==decide (y<0))=false:=by simp [h]
  by_cases O:x.natAbs<y.natAbs
  .have G:FE x.natAbs y.natAbs<0:=by rw [FE, Yao O];decide
   have c:=n (Aw (y.natAbs-x.natAbs));rw[AK,A0q h ZbC]at c;refine Ab func214 λq=>?_;rw[ntmps214];have b:=HT x.natAbs y.natAbs;refine Go ?_;refine Dy 8 ?_;have s:=Uu y.natAbs x.natAbs ZbC l;exact ZjA
  .have G:¬FE x.natAbs y.natAbs<0:=by rw [FE, Yaj O];split<;>decide
   have c:=N (Aw (x.natAbs-y.natAbs));rw[AK,A0r h ZbC]at c;refine Ab func214 λq=>?_;rw[ntmps214];have V:=HT x.natAbs y.natAbs;refine Go ?_;refine Dy 8 ?_;have M:=Uu x.natAbs y.natAbs ZbC g;exact ZjA
variable{vB:Array Value}{z u um:Value}{w:World}
theorem A3k{m U B:ResultVar}(h:vQ.results=#[m,U,B])(r:(Fp vB m).run P w=.ok z w)(q:(Fp vB U).run P w=.ok u w)(C:(Fp vB B).run P w=.ok um w):(results vQ vB).run P w=.ok (.tuple #[z,u,um]) w:=by
 have key:(results vQ vB).run P w=((Fp vB m).run P w).andThen λa N=>((Fp vB U).run P N).andThen λb X=>((Fp vB B).run P X).andThen λc A=>.ok (.tuple #[a,b,c]) A:=by
  unfold results;rw[h];cases m<;>cases U<;>cases B<;>simp[Fp,Nb]
 rw[key,r,Result.andThen_ok,q,Result.andThen_ok,C,Result.andThen_ok]
variable{vv uq xd:D}
theorem Zy{m U A:ResultVar}(h:ResV P ve m r)(b:ResV P ve U vv)(K:ResV P ve A uq)(I:D.le (FA [r,vv,uq]) xd):Rets P ve #[m,U,A] xd:=⟨λbase V s C c p n q=>by
 obtain⟨v,W,o⟩:=h.run base V s C n q;obtain⟨X,H,O⟩:=b.run base V s C n q;obtain⟨E,l,Q⟩:=K.run base V s C n q;refine⟨_,A3k p W H l,I s _ ⟨_,rfl,rfl,λk B=>?_⟩⟩;have B:k<3:=B
 match k,B with
 |0,_=>exact⟨_,rfl,o⟩
 |1,_=>exact⟨_,rfl,O⟩
 |2,_=>exact⟨_,rfl,Q⟩⟩
theorem Ss(x y:Int)(g:(Aw x.natAbs).length<=4398046511103)(M:y≠0)(Y:x.natAbs%y.natAbs=0):Abs prog 225 [AP (Cr x),AP (Cr y)] (FA [AP (Cr (x/y)),AP (Cr (x%y)),eI 0]):=by
 have I:¬(Aw y.natAbs).length=0:=λe=>M (by have:=Br.1 e;omega);have d:=Zc M (.inr Y);have U:=Zd x.natAbs y.natAbs g ZbC;have K:=IG (decide (x<0) != decide (y<0)) (Aw (x.natAbs/y.natAbs));have F:=IG false (Aw (x.natAbs%y.natAbs));rw[AK,show Ku (decide (x<0) != decide (y<0)) (x.natAbs/y.natAbs)=x/y from d.1.symm]at K;rw[AK,<-d.2]at F;have c:¬0<(Aw (x.natAbs%y.natAbs)).length:=by rw[Y,BJ];exact Ycm 0
 by_cases C:x<0
 .rw [Yal C]at K
  rw[show Cr x=[eB true,wD (Aw x.natAbs)]by rw[Cr,Yal C]];refine Ab func225 λq=>?_;rw[ntmps225];exact ZgN
 .rw [Yad C]at K
  rw[show Cr x=[eB false,wD (Aw x.natAbs)]by rw[Cr,Yad C]];refine Ab func225 λq=>?_;rw[ntmps225];exact ZgN
variable{s:GS}{a j:Int}
theorem AaF{e:Ending}(h:A6U a j w e s.w)(G:s.Ok):∃v,e=.returned v/\Ext w s.w/\(FA [AP (Cr a),AP (Cr j),eI 0]).rel s v:=by
 obtain⟨b,H,A,O,n,c,F,l,E,q,B,Z⟩:=h;refine⟨_,E,Z,_,rfl,rfl,λk C=>?_⟩;have C:k<3:=C
 match k,C with
 |0,_=>exact⟨_,rfl,HN G q⟩
 |1,_=>exact⟨_,rfl,HN G B⟩
 |2,_=>exact⟨_,rfl,rfl⟩
variable{uB uL:Int}
theorem AaG(g:∀args w,(callFunc vd args).run prog w=.ok (.enter vd args) w)(h:∀(b H:Bool) (A S:Option Addr) (n c F l:Nat) (w:World),IsInt w (.bool b) (.slice A n c) a->IsInt w (.bool H) (.slice S F l) j->Calls prog vd #[.agg #[.bool b,.slice A n c],.agg #[.bool H,.slice S F l]] w (A6U uB uL w)):Abs prog vd [AP (Cr a),AP (Cr j)] (FA [AP (Cr uB),AP (Cr uL),eI 0]):=by
 refine BI g λs L J I r=>?_;rw[vs2 I];obtain⟨u,i,d,O,V,E⟩:=DU (r 0 ZbR);obtain⟨f,k,m,M,W,q⟩:=DU (r 1 ZbR);rw[V,W];refine(h u f i k d O m M s.w E q).mono λe N Y=>?_;obtain⟨b,H,A,S,n,c,F,l,C,q,B,Z⟩:=id Y;refine⟨_,C,Z,λG Q X _ _=>?_⟩;subst Q;obtain⟨v,r,_,K⟩:=AaF Y X;rw[C]at r;cases r;exact K
theorem WG(x y:Int)(g:(Aw x.natAbs).length<=4398046511104)(C:(Aw y.natAbs).length<=4398046511104)(M:y≠0)(Y:x.natAbs%y.natAbs=0):Abs prog 291 [AP (Cr x),AP (Cr y)] (FA [AP (Cr (x/y)),AP (Cr (x%y)),eI 0]):=
 AaG (Ag func291 ZbG ZbG) λb H A O n c q l w h B=>WJ b H A O n c q l x y w h B g C M (.inr Y)
theorem Ew{q:Rat}(g:q.num=a)(d:(q.den:Int)=j):Cr a++Cr j=DE q:=by
 rw[DE,g,d];rfl
theorem Ze:Aw 1=[1]:=by rw[Fl ZbH,show 1/BB=0 from rfl,BJ];rfl
theorem A83(h:(Aw a.natAbs).length=1):(Aw a.natAbs).getD 0 0=a.natAbs:=by
 obtain⟨w,c⟩:∃w,Aw a.natAbs=[w]:=List.length_eq_one_iff.1 h;have:=AK a.natAbs;rw[c]at this ⊢;have A:w+BB*0=a.natAbs:=this;show w=_;omega
theorem Aaw(h:a<0):Cr a=[eB true,wD (Aw a.natAbs)]:=by rw[Cr,Yal h]
theorem Aax(h:¬a<0):Cr a=[eB false,wD (Aw a.natAbs)]:=by rw[Cr,Yad h]
theorem Rh(z:Int):Abs prog 285 [AP (Cr z)] (eB (decide (z=1))):=by
 by_cases n:z<0
 .rw [Yad (show ¬z=1 by omega), Aaw n]
  refine Ab func285 λy=>?_;rw[ntmps285];exact Zfz
 .rw [Aax n]
  by_cases q:(Aw z.natAbs).length=1
  .have A:=A83 q
   have c:(0:Nat)<(Aw z.natAbs).length:=by omega
   have d:decide (z=1)=decide ((((Aw z.natAbs).getD 0 0:Nat):Int)=1):=YcO.2 (by rw[A];omega);rw[d];refine Ab func285 λy=>?_;rw[ntmps285];apply Y1;refine Bx ?_;refine Wa<|Y0<|Y1 ?_;refine Wq AB ?_;refine Wq As ?_;refine Wq GD ?_;refine Wm ?_;refine Wg AB ?_;refine Wg As ?_;refine Wg Ro ?_;refine Wg Bc ?_;refine Wq Cw ?_;refine Wm ?_;refine Wg AB ?_;refine Wg As ?_;refine Wg (MK (l:=Aw z.natAbs) (k:=0) (ao rfl) (ao rfl) (Aa rfl) (Aa rfl) c) ?_;refine Wg AT ?_;refine Wg Ci ?_;refine Wq Cw ?_;refine Wa<|Y0<|BR ?_
   exact Yf
  .have B:¬z=1:=λe=>q (by rw [e]; exact congrArg List.length Ze)
   rw[Yad B];refine Ab func285 λy=>?_;rw[ntmps285];exact Zfz
theorem Fa(z:Int)(c:-9223372036854775808<=z)(q:z<=9223372036854775807):Abs prog 70 [eI z] (AP (DE (z:Rat))):=by
 refine Ab func70 λy=>?_;rw[ntmps70];have s:=KQ z c q;have V:=KQ 1 ZbC ZbC;refine Go ?_;exact AA (Am (ResV.cell rfl rfl (Aa rfl) rfl rfl rfl) (Ae (congrArg AP (Ew rfl rfl))))
theorem EQ(p:Rat):Abs prog 137 [AP (DE p)] (eI p.num.sign):=by
 rw[<-Ew (q:=p) rfl rfl];refine Ab func137 λy=>?_;rw[ntmps137];have M:=FR p.num;exact Zfz
theorem GB(p:Rat):Abs prog 140 [AP (DE p)] (eI p.num.sign):=by
 rw[<-Ew (q:=p) rfl rfl];refine Ab func140 λy=>?_;rw[ntmps140];have q:=Qa p.num;exact Zfz
theorem Sr(x y:Int)(g:(Aw x.natAbs).length<=4398046511104)(l:(Aw y.natAbs).length<=4398046511104)(M:0<y):Abs prog 322 [AP (Cr x),AP (Cr y)] (AP (DE (Rat.divInt x y))):=by
 have K:=Rh y;by_cases q:y=1
 .subst q
  have d:=A13 x;rw[Yal rfl]at K;refine Ab func322 λB=>?_;rw[ntmps322];exact Zhv
 .rw [Yad q]at K
  have r:=Rl x y g l;have C:=Rh (Nat.gcd x.natAbs y.natAbs:Nat);have F:=DP (x:=x) M;have G:0<Nat.gcd x.natAbs y.natAbs:=Nat.gcd_pos_of_pos_right _ ZbC;have o:(Aw ((Nat.gcd x.natAbs y.natAbs:Nat):Int).natAbs).length<=4398046511104:=Yau (BP (YdF ZbC (YbN _ _))) l;by_cases A:((Nat.gcd x.natAbs y.natAbs:Nat):Int)=1
  .have d:=SR (x:=x) M ZbC
   rw[Yal A]at C;refine Ab func322 λB=>?_;rw[ntmps322];exact Zhv
  .rw [Yad A]at C
   have h:=WG x (Nat.gcd x.natAbs y.natAbs:Nat) g o ZbC (Yce (YcG _ _));have E:=WG y (Nat.gcd x.natAbs y.natAbs:Nat) l o ZbC (Yce (YbN _ _));refine Ab func322 λB=>?_;rw[ntmps322];refine Go ?_;exact AA (Am (ResV.cell rfl rfl (Aa rfl) rfl rfl rfl) (Ae (congrArg AP (Ew F.1 F.2))))
def pk(l:List Int):Nat->Int
 |0=>1
 |k+1=>pk l k*l.getD k default
theorem Yh(x y:Int)(N M:Nat)(C:(Aw x.natAbs).length<=N)(E:(Aw y.natAbs).length<=M)(V:N<=4398046511104)(a:M<=4398046511104):Abs prog 234 [slD 109 2 ([x,y].map Cr)] (AP (Cr (x*y))):=by
 have s:pk [x,y] 2=x*y:=by
  show 1*x*y=x*y;rw[Yeo]
 have I:(Aw (1:Int).natAbs).length<=1:=by rw[show(1:Int).natAbs=1 from rfl,Ze];exact Yai 1
 refine Ab func234 λF=>?_;rw[ntmps234];have U:=Wn 1 ZbC ZbC;refine Go ?_;refine AC (λw e=>∃k,k<=2/\w=2-k/\e=⟨[(2,.ptr 0 0),(3,.ptr 1 0),(7,.d (slD 109 2 ([x,y].map Cr))),(8,.d (eN 2)),(9,.d (eN k))],[.var 109 ([eB false,eS].map .d),.var 109 ((Cr (pk [x,y] k)).map .d)]⟩) ?le ⟨0,by omega,rfl,rfl⟩ ?round
 case le=>exact Ac Zch Zcu
 case round=>
  rintro w _ ⟨k,B,rfl,rfl⟩;by_cases O:k<2
  .have B:k<[x,y].length:=O
   have T:pk [x,y] (k+1)=pk [x,y] k*[x,y].getD k default:=rfl
   have J:(Aw (pk [x,y] k).natAbs).length<=4398046511104:=by
    have:k=0\/k=1:=by omega
    rcases this with rfl | rfl
    .exact Yau I ZbC
    .rw [show pk [x,y] 1=1*x from rfl,Yeo];omega
   have W:(Aw ([x,y].getD k default).natAbs).length<=4398046511104:=by
    have:k=0\/k=1:=by omega
    rcases this with rfl | rfl
    .show (Aw x.natAbs).length<=_;omega
    .show (Aw y.natAbs).length<=_;omega
   have K:=Rh ([x,y].getD k default);have G:=Rh (pk [x,y] k);have h:=Wy (pk [x,y] k) ([x,y].getD k default) J W;by_cases q:[x,y].getD k default=1
   .rw [Yal q]at K
    rw[q,Int.mul_one]at T;refine ZgR ?_;exact Ac Zch (by exact Yv<|HpLe.cons (OwLe.varD (by rw[T]))<|HpLe.nil)
   .rw [Yad q]at K
    by_cases A:pk [x,y] k=1
    .rw [Yal A]at G
     rw[A,Yeo]at T;refine ZgR ?_;exact Ac Zch (by apply Yv;(refine HpLe.cons (OwLe.varD (by rw[T];rfl)) ?_);exact HpLe.nil)
    .rw [Yad A]at G
     refine ZgR ?_;exact Ac Zch Zcu
  .obtain rfl:k=2:=by omega
   rw[s];exact ZfF
theorem A5W(p q:Rat)(N M:Nat)(F:RSz p N)(m:RSz q M)(V:N+M<=4398046511104):Abs prog 324 [AP (DE p),AP (DE q)] (AP (DE (p*q))):=by
 have A:=p.den_pos;have B:=q.den_pos;have X:=Fv p F;have Y:=Fv q m;have I:(Aw p.num.natAbs).length<=N:=F.1;have z:(Aw q.num.natAbs).length<=M:=m.1;have K:=Sr p.num q.den ZbC ZbC ZbC;have E:=Sr q.num p.den ZbC ZbC ZbC;have C:=UP p q;have G:RSz (Rat.divInt p.num q.den) 4398046511104:=RSz.divInt ZbC ZbC ZbC;have i:RSz (Rat.divInt q.num p.den) 4398046511104:=RSz.divInt ZbC ZbC ZbC;generalize Rat.divInt p.num q.den=u at K C G;generalize Rat.divInt q.num p.den=v at E C i;have h:=Yh u.num v.num _ _ G.1 i.1 ZbC ZbC;have g:=Yh u.den v.den _ _ (Fv u G) (Fv v i) ZbC ZbC;rw[<-Ew (q:=p) rfl rfl,<-Ew (q:=q) rfl rfl];rw[<-Ew (q:=u) rfl rfl]at K;rw[<-Ew (q:=v) rfl rfl]at E;refine Ab func324 λy=>?_;rw[ntmps324];refine Go ?_;refine Dy 13 ?_;refine ZfU ?_;exact AA (Am (ResV.cell rfl rfl (Aa rfl) rfl rfl rfl) (Ae (congrArg AP (Ew C.1 (by rw[C.2];push_cast;rfl)))))
theorem A2Y(x g:Int)(q:(Aw x.natAbs).length<=4398046511103)(R:g≠0)(Y:x.natAbs%g.natAbs=0):Abs prog 280 [AP (Cr x),AP (Cr g)] (AP (Cr (x/g))):=by
 refine Ab func280 λy=>?_;rw[ntmps280];have b:=Ss x g q R Y;exact ZfF
theorem Oq(x y:Int)(g:(Aw x.natAbs).length<=4398046511103)(l:(Aw y.natAbs).length<=4398046511103)(M:y≠0):Abs prog 216 [AP (Cr x),AP (Cr y)] (AP (DE (Rat.divInt x y))):=by
 have F:=A0P (x:=x) M;have B:=A8k (x:=x) M;have r:=Th x y g l;have f:=Qa y
 have v:(Ps x y).natAbs=Nat.gcd x.natAbs y.natAbs:=by
  unfold Ps;split<;>omega
 have K:=A2Y x (Ps x y) g B (by rw[v];exact Yce (YcG _ _));have A:=A2Y y (Ps x y) l B (by rw[v];exact Yce (YbN _ _));by_cases h:y<0
 .have a:y.sign<0:=by rw [Ybi h];decide
  have H:=A3A (Nat.gcd x.natAbs y.natAbs:Nat);rw[show -((Nat.gcd x.natAbs y.natAbs:Nat):Int)=Ps x y by rw[Ps,Yao h]]at H;refine Ab func216 λq=>?_;rw[ntmps216];refine Go ?_;refine Dy 7 ?_;exact Zhr
 .have a:¬y.sign<0:=by rw [Ybr ZbC];decide
  rw[show Ps x y=((Nat.gcd x.natAbs y.natAbs:Nat):Int)by rw[Ps,Yaj h]]at K A F;refine Ab func216 λq=>?_;rw[ntmps216];refine Go ?_;refine Dy 7 ?_;exact Zhr
theorem A3y(x y:Int)(g:(Aw x.natAbs).length<=4398046511103)(l:(Aw y.natAbs).length<=4398046511103)(M:y≠0):Abs prog 227 [AP (Cr x),AP (Cr y)] (FA [AP (DE (Rat.divInt x y)),eI 0]):=by
 have a:¬y.sign=0:=λh=>M (Ydq.1 h);refine Ab func227 λq=>?_;rw[ntmps227];have s:=Qa y;have V:=Oq x y g l M;exact ZgY
theorem A3z(p q:Rat)(N M:Nat)(F:RSz p N)(m:RSz q M)(V:N+M<=4398046511103):Abs prog 182 [AP (DE p),AP (DE q)] (AP (DE (p*q))):=by
 have A:=p.den_pos;have B:=q.den_pos;have X:=Fv p F;have Y:=Fv q m;have G:(Aw p.num.natAbs).length<=N:=F.1;have z:(Aw q.num.natAbs).length<=M:=m.1;have C:=FV G z;have a:=FV X Y;have d:((p.den:Int)*q.den)≠0:=YeL ZbC ZbC;have K:=Hz p.num q.num ZbC ZbC;have E:=Hz p.den q.den ZbC ZbC;have h:=Oq (p.num*q.num) ((p.den:Int)*q.den) ZbC ZbC d;rw[<-A0M]at h;rw[<-Ew (q:=p) rfl rfl,<-Ew (q:=q) rfl rfl];refine Ab func182 λy=>?_;rw[ntmps182];apply Y1;refine Bx ?_;refine Bx ?_;refine Al ?_;refine Y0<|Ah ?_
 refine Dy 11 ?_;refine Xq AB ?_;refine Xq AF ?_;refine Xq AB ?_;refine Xq AF ?_;refine Xq (AJ (K)) ?_;refine Xq AB ?_;refine Xq AF ?_;refine Xq AB ?_;refine Xq AF ?_;refine Xq (AJ (E)) ?_;refine Xq (AJ (h)) ?_;refine⟨_,rfl,?_⟩;refine Sf ?_;refine Y0<|BR ?_
 exact Zkg
theorem Pq(p q:Rat)(N M:Nat)(F:RSz p N)(m:RSz q M)(V:N+M+1<=4398046511103):Abs prog 133 [AP (DE p),AP (DE q)] (AP (DE (p+q))):=by
 have A:=p.den_pos;have B:=q.den_pos;have X:=Fv p F;have J:=Fv q m;have I:(Aw p.num.natAbs).length<=N:=F.1;have z:(Aw q.num.natAbs).length<=M:=m.1;have C:=FV I J;have a:=FV z X;have U:=FV X J;have G:=A2D C (Yau a ZbC);have d:((p.den:Int)*q.den)≠0:=YeL ZbC ZbC;have K:=Hz p.num q.den ZbC ZbC;have E:=Hz q.num p.den ZbC ZbC;have h:=A3B (p.num*q.den) (q.num*p.den) ZbC ZbC;have g:=Hz p.den q.den ZbC ZbC;have Y:=Oq (p.num*q.den+q.num*p.den) ((p.den:Int)*q.den) ZbC ZbC d;rw[<-Vi]at Y;rw[<-Ew (q:=p) rfl rfl,<-Ew (q:=q) rfl rfl];refine Ab func133 λy=>?_;rw[ntmps133];apply Y1;refine Bx ?_;refine Bx ?_;refine Al ?_;refine Y0<|Ah ?_
 refine Dy 17 ?_;refine Xq AB ?_;refine Xq AF ?_;refine Xq AB ?_;refine Xq AF ?_;refine Xq (AJ (K)) ?_;refine Xq AB ?_;refine Xq AF ?_;refine Xq AB ?_;refine Xq AF ?_;refine Xq (AJ (E)) ?_;refine Xq (AJ (h)) ?_;refine Xq AB ?_;refine Xq AF ?_;refine Xq AB ?_;refine Xq AF ?_;refine Xq (AJ (g)) ?_;refine Xq (AJ (Y)) ?_;refine⟨_,rfl,?_⟩;refine Sf ?_;refine Y0<|BR ?_
 exact Zkg
def LF(b:Bool)(l:List Nat):Bool:=if l.length=0 then !b else(((l.getD (l.length-1) 0:Nat):Int) != 0)
theorem SD(b:Bool)(l:List Nat)(g:l.length<=1000000000):Abs prog 303 [AP [eB b,wD l]] (eB (LF b l)):=by
 refine Ab func303 λy=>?_;rw[ntmps303];refine Go ?_;by_cases c:l.length=0
 .refine Go ?_
  exact AA (Am (ResV.tmp rfl rfl) (Ae (by rw[LF,Yao c])))
 .refine Go ?_
  exact AA (Am (ResV.tmp rfl rfl) (Ae (by rw[LF,Yaj c])))
theorem RE:∀{l:List Nat},l≠[]->l.getD (l.length-1) 0≠0->El l=l
 |[],h,_=>absurd rfl h
 |[x],_,h=>by
  have h:x≠0:=h;simp[El,h]
 |x::y::l,_,h=>by
  have b:(y::l).getD ((y::l).length-1) 0≠0:=by
   have e:(x::y::l).getD ((x::y::l).length-1) 0=(y::l).getD ((y::l).length-1) 0:=by simp
   rwa [e]at h
  have u:=RE (l:=y::l) ZbR b;rw[El,u]
variable{o:Bool}
theorem UT(a:BK l)(h:LF o l=true):∃z:Int,o=decide (z<0)/\l=Aw z.natAbs:=by
 unfold LF at h;split at h
 .rename_i c
  obtain rfl:=YaE c;exact⟨0,by simpa using h,by simp[BJ]⟩
 .rename_i c
  have q:l≠[]:=λe=>c (by rw[e];rfl);have A:l.getD (l.length-1) 0≠0:=λe=>by rw[e]at h;simp at h
  have K:l=Aw (val l):=by rw[<-Bn a,RE q A]
  have Q:val l≠0:=λe=>by rw[e,BJ]at K;exact q K
  cases o with
  |true=>exact⟨-(val l:Int),by simp;omega,by simpa using K⟩
  |false=>exact⟨(val l:Int),by simp,by simpa using K⟩
theorem UR(z:Int):LF (decide (z<0)) (Aw z.natAbs)=true:=by
 unfold LF;split
 .rename_i h
  have:=Br.1 h;have:z=0:=by omega
  subst this;rfl
 .rename_i h
  have d:(Aw z.natAbs).getD ((Aw z.natAbs).length-1) 0≠0:=by
   have key:∀n,n≠0->(Aw n).getD ((Aw n).length-1) 0≠0:=by
    intro n
    induction n using Nat.strongRecOn with
    |_ n u=>
     intro g;rw[Fl g];by_cases c:n/BB=0
     .rw [c,BJ]
      have:n%BB=n:=YaV (by have:=Nat.div_eq_zero_iff.1 c;rcases this with h | h;exact absurd h ZbH;exact h);simpa[this]using g
     .have:=u (n/BB) (Ydx (YbC g) ZbH) c
      have A:(Aw (n/BB)).length≠0:=λe=>c (Br.1 e);obtain⟨m,v⟩:∃m,(Aw (n/BB)).length=m+1:=⟨(Aw (n/BB)).length-1,by omega⟩;rw[v]at this;simp only[Yat,v,Ycd,Ydb]at this ⊢;exact this
   exact key _ λe=>h (Br.2 e)
  simp only[bne_iff_ne,ne_eq];omega
def QOk(b:Bool)(l:List Nat)(H:Bool)(i:List Nat):Prop:=∃q:Rat,b=decide (q.num<0)/\l=Aw q.num.natAbs/\H=decide ((q.den:Int)<0)/\i=Aw (q.den:Int).natAbs
theorem Rj(h:decide (a<0)=decide (j<0))(b:Aw a.natAbs=Aw j.natAbs):a=j:=by
 have q:a.natAbs=j.natAbs:=by rw[<-AK a.natAbs,b,AK]
 have A:(a<0)↔(j<0):=by simpa using h
 omega
theorem Xx(x y:Int):QOk (decide (x<0)) (Aw x.natAbs) (decide (y<0)) (Aw y.natAbs)↔0<y/\Nat.gcd x.natAbs y.natAbs=1:=by
 constructor
 .rintro ⟨q,A,B,K,Q⟩
  have W:=Rj A B;have o:=Rj K Q;subst W;subst o;exact⟨by have:=q.den_pos;omega,q.reduced⟩
 .rintro ⟨A,B⟩
  refine⟨⟨x,y.natAbs,by omega,B⟩,rfl,rfl,?_,?_⟩
  .show decide (y<0)=decide (((y.natAbs:Nat):Int)<0)
   rw[Yad (show¬y<0 by omega),Yad ZbC]
  .show Aw y.natAbs=Aw ((y.natAbs:Nat):Int).natAbs
   rfl
variable{uo:Bool}
theorem A7c(h:QOk o l uo g):LF o l=true/\LF uo g=true:=by
 obtain⟨q,rfl,rfl,rfl,rfl⟩:=h;exact⟨UR _,UR _⟩
def A5B(b:Bool)(l:List Nat)(H:Bool)(i:List Nat):List D:=[eB b,wD l,eB H,wD i]
open Classical in
theorem Sb(b:Bool)(l:List Nat)(H:Bool)(i:List Nat)(a:BK l)(G:BK i)(g:l.length<=1000000000)(C:i.length<=1000000000):Abs prog 251 [AP (A5B b l H i)] (eB (decide (QOk b l H i))):=by
 have K:=SD b l g;have F:=SD H i C
 cases q:LF b l with
 |false=>
  have m:¬QOk b l H i:=λh=>by rw[(A7c h).1]at q;cases q
  rw[q]at K;rw[Yad m];refine Ab func251 λB=>?_;rw[ntmps251];exact Zfz
 |true=>
  rw[q]at K
  cases A:LF H i with
  |false=>
   have m:¬QOk b l H i:=λh=>by rw[(A7c h).2]at A;cases A
   rw[A]at F;rw[Yad m];refine Ab func251 λB=>?_;rw[ntmps251];exact Zfz
  |true=>
   rw[A]at F;obtain⟨x,rfl,rfl⟩:=UT a q;obtain⟨y,rfl,rfl⟩:=UT G A;by_cases M:0<y
   .have P:y.sign=1:=Ybr M
    have E:=Kf y;by_cases L:y=1
    .rw [Yal L]at E
     rw[Yal ((Xx x y).2 ⟨M,by subst L;exact Nat.gcd_one_right _⟩)];refine Ab func251 λB=>?_;rw[ntmps251];have U:=FR y;exact Zfz
    .rw [Yad L]at E
     have R:decide (QOk (decide (x<0)) (Aw x.natAbs) (decide (y<0)) (Aw y.natAbs))=decide (((Nat.gcd x.natAbs y.natAbs:Nat):Int)=1):=by
      refine YcO.2 ((Xx x y).trans ⟨λh=>by omega,λh=>⟨M,by omega⟩⟩)
     rw[R];refine Ab func251 λB=>?_;rw[ntmps251];have I:=FR y;have s:=Rl x y ZbC ZbC;have V:=Kf (Nat.gcd x.natAbs y.natAbs:Nat);exact Zfz
   .have P:y.sign<=0:=Int.sign_nonpos_iff.2 ZbC
    rw[Yad λh=>M ((Xx x y).1 h).1];refine Ab func251 λB=>?_;rw[ntmps251];have J:=FR y;exact Zfz
def Acn(b:Bool)(m:Nat)(H:Bool)(x:Nat):Int:=match b,H with
 |true,true=>FE x m
 |true,false=>-1
 |false,true=>1
 |false,false=>FE m x
theorem A4b(b H:Bool)(m x:Nat):Abs prog 259 [AP [eB b,wD (Aw m)],AP [eB H,wD (Aw x)]] (eI (Acn b m H x)):=by
 cases b<;>cases H
 .refine Ab func259 λy=>?_
  rw[ntmps259];have U:=HT m x;exact Zfz
 .refine Ab func259 λy=>?_
  rw[ntmps259];exact Zfz
 .refine Ab func259 λy=>?_
  rw[ntmps259];exact Zfz
 .refine Ab func259 λy=>?_
  rw[ntmps259];have q:=HT x m;exact Zfz
theorem MA(x y:Nat):FE x y=((x:Int)-y).sign:=by
 unfold FE;rcases Yci x y with h | h | h
 .rw [Yao h,Ybi ZbC]
 .subst h;simp
 .rw [Yaj ZbC,Yao h,Ybr ZbC]
theorem A3V(x y:Int):Acn (decide (x<0)) x.natAbs (decide (y<0)) y.natAbs=(x-y).sign:=by
 by_cases C:x<0<;>by_cases M:y<0
 .rw [Yal C,Yal M]
  show FE _ _=_;rw[MA];exact Zhl
 .rw [Yal C,Yad M]
  show(-1:Int)=_;rw[Ybi ZbC]
 .rw [Yad C,Yal M]
  show(1:Int)=_;rw[Ybr ZbC]
 .rw [Yad C,Yad M]
  show FE _ _=_;rw[MA];exact Zhl
theorem A4c(x y:Int):Abs prog 259 [AP (Cr x),AP (Cr y)] (eI ((x-y).sign)):=by
 rw[<-A3V];exact A4b _ _ _ _
theorem A6k(x y:Int):Abs Tryz.prog 233 [AP (Cr x),AP (Cr y)] (ex (.int .i64 (x-y).sign)):=by
 have hx:x.sign = -1/\x<0\/x.sign=0/\x=0\/x.sign=1/\0<x:=by
  rcases Int.lt_trichotomy x 0 with h | h | h
  .exact .inl ⟨Int.sign_eq_neg_one_of_neg h,h⟩
  .exact .inr (.inl ⟨by rw [h];rfl,h⟩)
  .exact .inr (.inr ⟨Int.sign_eq_one_of_pos h,h⟩)
 have hy:y.sign = -1/\y<0\/y.sign=0/\y=0\/y.sign=1/\0<y:=by
  rcases Int.lt_trichotomy y 0 with h | h | h
  .exact .inl ⟨Int.sign_eq_neg_one_of_neg h,h⟩
  .exact .inr (.inl ⟨by rw [h];rfl,h⟩)
  .exact .inr (.inr ⟨Int.sign_eq_one_of_pos h,h⟩)
 rcases (show x.sign<y.sign\/y.sign<x.sign\/(x.sign=y.sign/\x.sign<0)\/(x.sign=y.sign/\0<=x.sign) by omega) with h | h | h | h
 .refine Ab Tryz.func233 λs0=>?_
  rw [Tryz.ntmps233]
  refine Go ?_
  refine Dy 4 ?_
  have hg3:=FR x;have hg4:=FR y;refine DA ?_
  refine Go ?_
  exact AA (Am (ResV.tmp rfl rfl) (Ae (by rw [Int.sign_eq_neg_one_of_neg (show x-y<0 by omega)])))
 .refine Ab Tryz.func233 λs0=>?_
  rw [Tryz.ntmps233]
  refine Go ?_
  refine Dy 4 ?_
  have hg5:=FR x;have hg6:=FR y;refine DA ?_
  refine Go ?_
  exact AA (Am (ResV.tmp rfl rfl) (Ae (by rw [Int.sign_eq_one_of_pos (show 0<x-y by omega)])))
 .refine Ab Tryz.func233 λs0=>?_
  rw [Tryz.ntmps233]
  refine Go ?_
  refine Dy 4 ?_
  have hg7:=FR x;have hg8:=FR y;refine DA ?_
  have hg9:=Qw y.natAbs x.natAbs;refine Go ?_
  exact AA (Am (ResV.tmp rfl rfl) (Ae (by rw [MA];show ex (.int .i64 _)=ex (.int .i64 _);congr 3;omega)))
 .refine Ab Tryz.func233 λs0=>?_
  rw [Tryz.ntmps233]
  refine Go ?_
  refine Dy 4 ?_
  have hg10:=FR x;have hg11:=FR y;refine DA ?_
  have hg12:=Qw x.natAbs y.natAbs;refine Go ?_
  exact AA (Am (ResV.tmp rfl rfl) (Ae (by rw [MA];show ex (.int .i64 _)=ex (.int .i64 _);congr 3;omega)))
theorem Qi(x y:Int)(C:(Aw x.natAbs).length<=1000000000)(M:(Aw y.natAbs).length<=1000000000):Abs prog 234 [slD 109 2 [Cr x,Cr y]] (AP (Cr (x*y))):=by
 have K:=Kf x;have F:=Kf y;have W:=Kf 1;rw[Yal rfl]at W;refine Ab func234 λB=>?_;rw[ntmps234];have L:=Wn 1 ZbC ZbC;refine Go ?_;refine AC (λw e=>∃(r:Int) (k:Nat),(w=2/\r=1/\k=0\/w=1/\r=x/\k=1\/w=0/\r=x*y/\k=2)/\e=⟨[(2,.ptr 0 0),(3,.ptr 1 0),(7,.d (slD 109 2 [Cr x,Cr y])),(8,.d (eI 2)),(9,.d (eN k))],[.var 109 ([eB false,eS].map .d),.var 109 ((Cr r).map .d)]⟩) ?le ⟨1,0,.inl ⟨rfl,rfl,rfl⟩,rfl⟩ ?round
 case le=>exact Ac Zch Zcu
 case round=>
  rintro w _ ⟨r,k,⟨rfl,rfl,rfl⟩ | ⟨rfl,rfl,rfl⟩ | ⟨rfl,rfl,rfl⟩,rfl⟩
  .by_cases q:x=1
   .rw [Yal q]at K
    refine Go ?_;refine Ai 1 ZbC ⟨x,1,.inr (.inl ⟨rfl,rfl,rfl⟩),rfl⟩ ?_;exact Ac Zch (by apply Yv;(refine HpLe.cons (OwLe.varD (by rw[q]<;>rfl)) ?_);exact HpLe.nil)
   .rw [Yad q]at K
    refine Go ?_;refine Ai 1 ZbC ⟨x,1,.inr (.inl ⟨rfl,rfl,rfl⟩),rfl⟩ ?_;exact Ac Zch Zcu
  .by_cases A:y=1
   .rw [Yal A]at F
    refine Zhq ?_;exact Ac Zch (by apply Yv;(refine HpLe.cons (OwLe.varD (by rw[A,Int.mul_one]<;>rfl)) ?_);exact HpLe.nil)
   .rw [Yad A]at F
    by_cases q:r=1
    .rw [Yal q]at K
     refine Zhq ?_;exact Ac Zch (by apply Yv;(refine HpLe.cons (OwLe.varD (by rw[q,Yeo]<;>rfl)) ?_);exact HpLe.nil)
    .rw [Yad q]at K
     have E:=Wy r y ZbC ZbC;refine Zhq ?_;exact Ac Zch Zcu
  .exact ZaH
def IR(p q:Rat):Int:=(p.num*(q.den:Int)-q.num*(p.den:Int)).sign
theorem NP(p q:Rat)(F:RSz p 1000000000)(m:RSz q 1000000000):Abs prog 136 [AP (DE p),AP (DE q)] (eI (IR p q)):=by
 have I:=p.den_pos;have N:=q.den_pos
 have C:p.num.sign=-1/\p.num<0\/p.num.sign=0/\p.num=0\/p.num.sign=1/\0<p.num:=by
  rcases YdM p.num 0 with h | h | h
  .exact Zkh
  .exact Zki
  .exact Zkj
 have M:q.num.sign=-1/\q.num<0\/q.num.sign=0/\q.num=0\/q.num.sign=1/\0<q.num:=by
  rcases YdM q.num 0 with h | h | h
  .exact Zkh
  .exact Zki
  .exact Zkj
 rcases(show p.num.sign<q.num.sign\/q.num.sign<p.num.sign\/p.num.sign=q.num.sign by omega)with h | h | h
 .have Y:IR p q=-1:=by
   refine Ybi ?_;rcases(show(p.num<0/\0<=q.num)\/(p.num<=0/\0<q.num)by omega)with⟨A,B⟩ | ⟨A,B⟩
   .have K:p.num*(q.den:Int)<0:=YeA A ZbC
    have Q:0<=q.num*(p.den:Int):=Yct B ZbC;omega
   .have K:p.num*(q.den:Int)<=0:=Ydw A ZbC
    have Q:0<q.num*(p.den:Int):=YeU B ZbC;omega
  rw[Y];refine Ab func136 λy=>?_;rw[ntmps136];refine Go ?_;refine Dy 4 ?_;have U:=EQ p;have b:=EQ q;refine DA ?_;refine Go ?_;exact Yf
 .have Y:IR p q=1:=by
   refine Ybr ?_;rcases(show(q.num<0/\0<=p.num)\/(q.num<=0/\0<p.num)by omega)with⟨A,B⟩ | ⟨A,B⟩
   .have K:q.num*(p.den:Int)<0:=YeA A ZbC
    have Q:0<=p.num*(q.den:Int):=Yct B ZbC;omega
   .have K:q.num*(p.den:Int)<=0:=Ydw A ZbC
    have Q:0<p.num*(q.den:Int):=YeU B ZbC;omega
  rw[Y];refine Ab func136 λy=>?_;rw[ntmps136];refine Go ?_;refine Dy 4 ?_;have s:=EQ p;have V:=EQ q;refine DA ?_;refine Go ?_;exact Yf
 .refine Ab func136 λy=>?_
  rw[ntmps136];refine Go ?_;refine Dy 4 ?_;have E:=EQ p;have G:=EQ q;refine ZfU ?_;refine Dy 13 ?_;have P:=Qi p.num q.den F.1 m.2;have R:=Qi q.num p.den m.1 F.2;have T:=A6k (p.num*q.den) (q.num*p.den);exact Zhh
theorem A48(p q:Rat)(F:RSz p 1000000000)(m:RSz q 1000000000):Abs prog 230 [AP (DE p),AP (DE q)] (eI (IR p q)):=by
 refine Ab func230 λy=>?_;rw[ntmps230];refine Go ?_;refine Dy 11 ?_;have z:=ZO p.num q.den (Yau F.1 ZbC) (Yau m.2 ZbC);have H:=ZO q.num p.den (Yau m.1 ZbC) (Yau F.2 ZbC);have t:=A4c (p.num*q.den) (q.num*p.den);exact Zhh
structure RTm where
 b:Bool
 l:List Nat
 b':Bool
 l':List Nat
 m:Nat->Int
instance:Inhabited RTm:=⟨⟨false,[],false,[],λ_=>0⟩⟩
def rtC(r:RTm):List D:=A5B r.b r.l r.b' r.l'++CN r.m
def Lh(L:List RTm):D:=slD 114 12 (L.map rtC)
def Fo(L:List RTm)(k:Nat):RTm:=L.getD k default
def tOk(r:RTm):Prop:=QOk r.b r.l r.b' r.l'/\r.l≠[]/\In8 r.m 0 65535
def In(L:List RTm):Prop:=∀k,k<L.length->tOk (Fo L k)/\(0<k->0<Iv (Fo L (k-1)).m (Fo L k).m)
def AbW(L:List RTm):Prop:=∀r∈L,BK r.l/\BK r.l'/\r.l.length<=1000000000/\r.l'.length<=1000000000
theorem A5t{L:List RTm}(h:n<L.length):Fo L n∈L:=by
 unfold Fo;exact Zgh
open Classical in
theorem A1J(L:List RTm)(n:AbW L)(g:L.length<=1000000):Abs prog 244 [Lh L] (eB (decide (In L))):=by
 refine Ab func244 λy=>?_;rw[ntmps244];refine Go ?_;refine AC (λw A=>∃k,k<=L.length/\w=L.length-k/\(∀j,j<k->tOk (Fo L j)/\(0<j->0<Iv (Fo L (j-1)).m (Fo L j).m))/\A=⟨[(0,.d (Lh L)),(5,.d (Lh L)),(6,.d (eN L.length)),(7,.d (eN k))],[]⟩) ?le ⟨0,by omega,rfl,λj X=>absurd X (Ybj j),rfl⟩ ?round
 case le=>exact Zkk
 case round=>
  rintro w _ ⟨k,B,rfl,H,rfl⟩;by_cases O:k<L.length
  .obtain ⟨M,i,S,W⟩:=n _ (A5t O)
   have K:=Sb (Fo L k).b (Fo L k).l (Fo L k).b' (Fo L k).l' M i S W;by_cases m:QOk (Fo L k).b (Fo L k).l (Fo L k).b' (Fo L k).l'
   .rw [Yal m]at K
    obtain⟨q,C,E,I,J⟩:=id m;have F:=EQ q;have t:DE q=A5B (Fo L k).b (Fo L k).l (Fo L k).b' (Fo L k).l':=by rw[C,E,I,J];rfl
    rw[t]at F;by_cases V:q=0
    .have a:=DL.2 V
     have d:¬In L:=λh=>(h k O).1.2.1 (by rw[E,V];exact BJ);rw[Yad d];exact Zfz
    .have a:q.num.sign≠0:=λe=>V (DL.1 e)
     by_cases v:In8 (Fo L k).m 0 65535
     .have p:tOk (Fo L k):=⟨m, λe=>by rw [E] at e; have:=Br.1 (by rw [e]; rfl); exact A2m V ZbC, v⟩
      rcases YaB k with c | c
      .subst c
       have N:=LC (Fo L 0).m v;refine Go ?_;refine Dy 14 ?_;refine ZfU ?_;refine Ai (L.length-1) ZbC ⟨1,by omega,rfl,λj X=>by obtain rfl:j=0:=ZbC;exact⟨p,λh=>absurd h (Ycm _)⟩,rfl⟩ ?_;exact Zkk
      .by_cases G:0<Iv (Fo L (k-1)).m (Fo L k).m
       .have P:=LC (Fo L k).m v;refine Go ?_
        refine Dy 14 ?_;have R:=Sw (Fo L (k-1)).m (Fo L k).m;refine ZfU ?_;refine Ai (L.length-(k+1)) ZbC ⟨k+1,by omega,rfl,λj X=>?_,rfl⟩ ?_
        .rcases Nat.lt_succ_iff_lt_or_eq.1 X with h | rfl
         .exact H j h
         .exact ⟨p,λ_=>G⟩
        .exact Zkk
       .have d:¬In L:=λh=>G ((h k O).2 c)
        rw[Yad d];have T:=LC (Fo L k).m v;refine Go ?_;refine Dy 14 ?_;have z:=Sw (Fo L (k-1)).m (Fo L k).m;exact Zhh
     .have d:¬In L:=λh=>v (h k O).1.2.2
      rw[Yad d];have Q:=YH (Fo L k).m v;exact Zfz
   .rw [Yad m]at K
    have d:¬In L:=λh=>m (h k O).1.1;rw[Yad d];exact Zfz
  .obtain rfl:k=L.length:=by omega
   have u:In L:=H;rw[Yal u];exact Zfz
structure RQ where
 b:Bool
 l:List Nat
 b':Bool
 l':List Nat
instance:Inhabited RQ:=⟨⟨false,[],false,[]⟩⟩
def By(n:Nat):List Nat:=if n<128 then[n]else(n%128+128)::By (n/128)
termination_by n
decreasing_by omega
def u64(z:Int):Nat:=(z%18446744073709551616).toNat
def So(z:Int):Nat:=if z<0 then 2*(-(z+1)).toNat+1 else 2*z.toNat
def Bs(z:Int):List Nat:=By (So z)
def Cy(w:Nat):List Nat:=[w/16777216%256,w/65536%256,w/256%256,w%256]
def FD(b:Bool)(l:List Nat):List Nat:=By (2*l.length+(if b=true then 1 else 0))++l.flatMap Cy
def CD(q:RQ):List Nat:=FD q.b q.l++FD q.b' q.l'
def Kb{U:Type}(e:U->List Nat)(f:Nat->U):List Nat:=(List.range 8).flatMap λi=>e (f i)
def Eu(t:RTm):List Nat:=(FD t.b t.l++FD t.b' t.l')++Kb (λz=>By (u64 z)) t.m
def Bp{U:Type}(e:U->List Nat)(l:List U):List Nat:=By l.length++l.flatMap e
abbrev CH:List RTm->List Nat:=Bp Eu
abbrev Bj:List (List RTm)->List Nat:=Bp CH
abbrev BQ:List (List (List RTm))->List Nat:=Bp Bj
abbrev Gz:(Nat->Int)->List Nat:=Kb Bs
abbrev CC:List (Nat->Int)->List Nat:=Bp Gz
abbrev GW:List RQ->List Nat:=Bp CD
def GT(a:RQ×RQ):List Nat:=CD a.1++CD a.2
abbrev Hg:(Nat->RQ×RQ)->List Nat:=Kb GT
abbrev Gm:List (Nat->RQ×RQ)->List Nat:=Bp Hg
abbrev QP:(Nat->RQ)->List Nat:=Kb CD
def Kt(s:RQ×List RTm):List Nat:=CD s.1++CH s.2
structure Cor where
 n:Int
 e:List (List RTm)
 f:List (List RTm)
structure Clm where
 kind:Int
 p:List RTm
 n:Int
 d:Int
 r:Int
 o:List (Nat->Int)
 l:List (List RTm)
 s:List Int
 b:List (Nat->RQ×RQ)
structure Rsl where
 l:Nat->Int
 q:List RQ
 r:Nat->List RQ
structure Crt where
 n:Int
 cof:List (List RTm)
 g:List (List RTm)
 o:List (Nat->Int)
 c:List (List (List RTm))
 q:List (List (List RTm))
 s:List (List (List RTm))
 r:Rsl
 a:List (RQ×RQ)
 sq:List (RQ×List RTm)
 x:List (Nat->RQ)
 b:List (Nat->RQ×RQ)
structure Fct where
 k:Cor
 c:Clm
 e:Crt
def FY(k:Cor):List Nat:=(Bs k.n++Bj k.e)++Bj k.f
def Ix(c:Clm):List Nat:=Bs c.kind++CH c.p++Bs c.n++Bs c.d++Bs c.r++CC c.o++Bj c.l++Bp Bs c.s++Gm c.b
def JH(r:Rsl):List Nat:=Gz r.l++GW r.q++Kb GW r.r
def Kk(e:Crt):List Nat:=Bs e.n++Bj e.cof++Bj e.g++CC e.o++BQ e.c++BQ e.q++BQ e.s++JH e.r++Bp GT e.a++Bp Kt e.sq++Bp QP e.x++Gm e.b
def EH(f:Fct):List Nat:=FY f.k++Ix f.c++Kk f.e
abbrev Rd(U:Type):=List Nat->Option (U×List Nat)
def Cp{U:Type}(a:U):Rd U:=λb=>some (a,b)
def Rd.bind{U M:Type}(p:Rd U)(f:U->Rd M):Rd M:=λb=>match p b with
 |none=>none
 |some (a,H)=>f a H
def Ld:Nat->Nat->Nat->Rd Nat
 |0,_,_=>λ_=>none
 |k+1,s,n=>λb=>match b with
  |[]=>none
  |c::H=>if 18446744073709551616<=(c%128)*s then none else if c<128 then some (n+(c%128)*s,H)else Ld k (s*128) (n+(c%128)*s) H
def Pp:Rd Nat:=Ld 10 1 0
def RT{U:Type}(p:Rd U)(e:U->List Nat)(D:U->Prop):Prop:=∀x,D x->∀b,p (e x++b)=some (x,b)
theorem A2x:∀(k s n x:Nat),0<s->x*s<18446744073709551616->x<128^k->0<k->∀b,Ld k s n (By x++b)=some (n+x*s,b)
 |0,_,_,_,_,_,_,h,_=>absurd h (Ycm 0)
 |k+1,s,n,x,a,C,B,_,b=>by
  rw[By];split
  .rename_i h
   rw[Ycn,Ycy,Ld]
   dsimp only
   rw[YaV h,Yaj ZbC,Yao h]
  .rename_i h
   rw[Ycn,Ld];have W:(x%128+128)%128=x%128:=by omega
   have o:x%128*s<=x*s:=YaX (Nat.mod_le _ _) (Yai _)
   dsimp only
   rw[W,Yaj ZbC,Yaj ZbC]
   have F:x/128<128^k:=by
    rw[YdO ZbC];rwa [Ybt]at B
   have c:0<k:=by
    rcases YaB k with e | e
    .subst e
     rw[Nat.pow_zero]at F;omega
    .exact e
   have H:x/128*(s*128)=(x/128*128)*s:=by rw[YaM s 128,Yba]
   have O:x*s=x%128*s+x/128*128*s:=by
    exact ZiK
   rw[A2x k (s*128) _ (x/128) ZbC (by rw[H];omega) F c b,H];congr 2;omega
theorem A8b:RT Pp By λn=>n<18446744073709551616:=λx C b=>by
 have:=A2x 10 1 0 x ZbC ZbC (Yer C ZbH) ZbC b;rw[Pp,this,YaH,Ybz]
theorem Bl{U M:Type}{p:Rd U}{e:U->List Nat}{D:U->Prop}(h:RT p e D)(f:U->Rd M){x:U}(C:D x)(b:List Nat):p.bind f (e x++b)=f x b:=by
 rw[Rd.bind,h x C b]
def Co{U:Type}(p:Rd U):Nat->Rd (List U)
 |0=>Cp []
 |n+1=>p.bind λx=>(Co p n).bind λl=>Cp (x::l)
theorem Rf{U:Type}{p:Rd U}{e:U->List Nat}{D:U->Prop}(h:RT p e D):∀(l:List U),(∀x∈l,D x)->∀b,Co p l.length (l.flatMap e++b)=some (l,b)
 |[],_,b=>rfl
 |x::l,I,b=>by
  rw[Yat,Co,Ydj,Yaf,Bl h _ (I x Ybk),Rd.bind,Rf h l (λy M=>I y (Ybc _ M))];rfl
def Il(c:List Nat->Bool):Rd Unit:=λb=>if c b=true then some ((),b)else none
theorem Dl{U:Type}{e:U->List Nat}:∀{l:List U},(∀x∈l,0<(e x).length)->l.length<=(l.flatMap e).length
 |[],_=>Yay _
 |x::l,h=>by
  have q:=Dl (e:=e) (l:=l) λy M=>h y (Ybc _ M);have A:=h x Ybk;rw[Ydj,Yac,Yat];omega
structure Lg where
 nat:Rd Nat
 ex:Nat->Bool
structure LgOk(G:Lg):Prop where
 nat:RT G.nat By λn=>n<9223372036854775808
 ex:∀n,n<=65535->G.ex n=true
section
variable (G:Lg)
def Fb{U:Type}(p:Rd U):Rd (List U):=G.nat.bind λn=>(Il λb=>decide (n<=b.length)).bind λ_=>Co p n
def Jh:Rd Nat:=λb=>match b with
 |q::h::L::z::H=>some (q*16777216+h*65536+L*256+z,H)
 |_=>none
def Px:Rd (Bool×List Nat):=G.nat.bind λn=>(Il λb=>decide (n/2<=b.length/4)).bind λ_=>(Co Jh (n/2)).bind λl=>Cp (decide (n%2=1),l)
def GQ:Rd RQ:=(Px G).bind λa=>(Px G).bind λc=>Cp ⟨a.1,a.2,c.1,c.2⟩
def Lc{U:Type}[Inhabited U](p:Rd U):Rd (Nat->U):=(Co p 8).bind λl=>Cp λi=>l.getD i default
def Pz:Rd Int:=G.nat.bind λn b=>if G.ex n=true then some ((n:Int),b)else none
def Jj:Rd RTm:=(GQ G).bind λq=>(Lc (Pz G)).bind λm=>Cp ⟨q.b,q.l,q.b',q.l',m⟩
def Ii:Rd Int:=G.nat.bind λn=>Cp (if n%2=0 then((n/2:Nat):Int)else -((n/2:Nat):Int)-1)
abbrev Hs:Rd (List RTm):=Fb G (Jj G)
abbrev EE:Rd (List (List RTm)):=Fb G (Hs G)
abbrev Lm:Rd (List (List (List RTm))):=Fb G (EE G)
abbrev QN:Rd (Nat->Int):=Lc (Ii G)
abbrev Lx:Rd (List (Nat->Int)):=Fb G (QN G)
abbrev QK:Rd (List RQ):=Fb G (GQ G)
def TK:Rd (RQ×RQ):=(GQ G).bind λa=>(GQ G).bind λb=>Cp (a,b)
abbrev WQ:Rd (Nat->RQ×RQ):=Lc (TK G)
abbrev LT:Rd (List (Nat->RQ×RQ)):=Fb G (WQ G)
abbrev ptP:Rd (Nat->RQ):=Lc (GQ G)
def sqP:Rd (RQ×List RTm):=(GQ G).bind λa=>(Hs G).bind λp=>Cp (a,p)
def WN:Rd Cor:=(Ii G).bind λn=>(EE G).bind λe=>(EE G).bind λf=>Cp ⟨n,e,f⟩
def MU:Rd Clm:=(Ii G).bind λkind=>(Hs G).bind λp=>(Ii G).bind λn=>(Ii G).bind λd=>(Ii G).bind λr=>(Lx G).bind λo=>(EE G).bind λl=>(Fb G (Ii G)).bind λs=>(LT G).bind λb=>Cp ⟨kind,p,n,d,r,o,l,s,b⟩
def VO:Rd Rsl:=(QN G).bind λl=>(QK G).bind λq=>(Lc (QK G)).bind λr=>Cp ⟨l,q,r⟩
def KL:Rd Crt:=(Ii G).bind λn=>(EE G).bind λC=>(EE G).bind λg=>(Lx G).bind λo=>(Lm G).bind λc=>(Lm G).bind λq=>(Lm G).bind λs=>(VO G).bind λr=>(Fb G (TK G)).bind λa=>(Fb G (sqP G)).bind λE=>(Fb G (ptP G)).bind λx=>(LT G).bind λb=>Cp ⟨n,C,g,o,c,q,s,r,a,E,x,b⟩
def Lf:Rd Fct:=(WN G).bind λk=>(MU G).bind λc=>(KL G).bind λe=>Cp ⟨k,c,e⟩
end
def SmW(l:List Nat):Prop:=(∀w∈l,w<4294967296)/\l.length<4611686018427387904
structure QB(q:RQ):Prop where
 n:SmW q.l
 d:SmW q.l'
def Oct{U:Type}[Inhabited U](D:U->Prop)(f:Nat->U):Prop:=(∀i,i<8->D (f i))/\∀i,8<=i->f i=default
structure TB(t:RTm):Prop where
 n:SmW t.l
 d:SmW t.l'
 m:Oct (λz=>0<=z/\z<=65535) t.m
def LB{U:Type}(D:U->Prop)(l:List U):Prop:=(∀x∈l,D x)/\l.length<9223372036854775808
abbrev PoB:List RTm->Prop:=LB TB
abbrev PsB:List (List RTm)->Prop:=LB PoB
abbrev TaB:List (List (List RTm))->Prop:=LB PsB
def IB(z:Int):Prop:=-2305843009213693952<=z/\z<=2305843009213693952
abbrev OrB:List (Nat->Int)->Prop:=LB (Oct IB)
abbrev UnB:List RQ->Prop:=LB QB
def VB(a:RQ×RQ):Prop:=QB a.1/\QB a.2
abbrev BoB:List (Nat->RQ×RQ)->Prop:=LB (Oct VB)
def Acz(s:RQ×List RTm):Prop:=QB s.1/\PoB s.2
structure CoB(k:Cor):Prop where
 n:IB k.n
 e:PsB k.e
 f:PsB k.f
structure ClB(c:Clm):Prop where
 kind:IB c.kind
 p:PoB c.p
 n:IB c.n
 d:IB c.d
 r:IB c.r
 o:OrB c.o
 l:PsB c.l
 s:LB IB c.s
 b:BoB c.b
structure RsB(r:Rsl):Prop where
 l:Oct IB r.l
 q:UnB r.q
 r:Oct UnB r.r
structure CrB(e:Crt):Prop where
 n:IB e.n
 cof:PsB e.cof
 g:PsB e.g
 o:OrB e.o
 c:TaB e.c
 q:TaB e.q
 s:TaB e.s
 r:RsB e.r
 a:LB VB e.a
 sq:LB Acz e.sq
 x:LB (Oct QB) e.x
 b:BoB e.b
structure FB(f:Fct):Prop where
 k:CoB f.k
 c:ClB f.c
 e:CrB f.e
theorem HW(n:Nat):0<(By n).length:=by
 rw[By];split<;>simp
section
variable {G:Lg} (hG:LgOk G)
include hG
theorem HI{U:Type}{p:Rd U}{e:U->List Nat}{D:U->Prop}(h:RT p e D)(c:∀x,D x->0<(e x).length):RT (Fb G p) (Bp e) (LB D):=λl ⟨I,g⟩ b=>by
 rw[Fb,Bp,Yaf,Bl hG.nat _ g];have:=Dl (e:=e) (l:=l) λx C=>c x (I x C);rw[Rd.bind,Il,Yao (Yal ZdL)];exact Rf h l I b
theorem A6e(I:SmW l)(r:List Nat):Px G (FD o l++r)=some ((o,l),r):=by
 have c:RT Jh Cy λw=>w<4294967296:=λw c o=>by
  show some (w/16777216%256*16777216+w/65536%256*65536+w/256%256*256+w%256,o)=some (w,o);congr 2;omega
 have U:(l.flatMap Cy).length=4*l.length:=by
  clear I
  induction l with
  |nil=>rfl
  |cons w l u=>rw[Ydj,Yac,u,Yat];show 4+_=_;omega
 have A:2*l.length+(if o=true then 1 else 0)<9223372036854775808:=by
  have:=I.2;split<;>omega
 have K:(2*l.length+(if o=true then 1 else 0))/2=l.length:=by split<;>omega
 have Q:decide ((2*l.length+(if o=true then 1 else 0))%2=1)=o:=by
  cases o
  .exact Yad ZbR
  .exact Yal ZcM
 rw[Px,FD,Yaf,Bl hG.nat _ A,K,Q,Rd.bind,Il,Yao (Yal (by rw[Yac,U];omega))]
 dsimp only
 rw[Rd.bind,Rf c l I.1 r];rfl
theorem Pc:RT (GQ G) CD QB:=λq m b=>by
 rw[GQ,CD,Yaf,Rd.bind,A6e hG m.n]
 dsimp only
 rw[Rd.bind,A6e hG m.d];rfl
variable{e:Type}{ul:e->Prop}
omit hG in
theorem Pj{α:Type}[Inhabited α]{p:Rd α}{e:α->List Nat}{D:α->Prop}(h:RT p e D):RT (Lc p) (Kb e) (Oct D):=λf ⟨hf,h0⟩ b=>by
 have h1:Kb e f=((List.range 8).map f).flatMap e:=by rw [List.flatMap_map];rfl
 have h2:=Rf h ((List.range 8).map f) (λx hx=>by
  obtain ⟨i,hi,rfl⟩:=List.mem_map.1 hx
  exact hf i (List.mem_range.1 hi)) b
 rw [List.length_map,List.length_range] at h2
 rw [Lc,h1,Rd.bind,h2]
 dsimp only
 rw [Cp]
 congr 2
 funext i
 by_cases hi:i<8
 .rw [List.getD_eq_getElem?_getD,List.getElem?_map,List.getElem?_range hi];rfl
 .rw [h0 i (by omega),List.getD_eq_getElem?_getD,List.getElem?_eq_none (by simp;omega)];rfl
theorem AaB:RT (Pz G) (λz=>By (u64 z)) λz=>0<=z/\z<=65535:=λz ⟨c,q⟩ b=>by
 have Q:((u64 z:Nat):Int)=z:=by
  unfold u64;omega
 rw[Pz,Bl hG.nat _ (show u64 z<9223372036854775808 by omega),Yao (hG.ex _ ZbC),Q]
theorem A7N:RT (Jj G) Eu TB:=λt ht b=>by
 rw [Jj,Eu,List.append_assoc]
 have h1:FD t.b t.l++FD t.b' t.l'=CD ⟨t.b,t.l,t.b',t.l'⟩:=rfl
 rw [h1,Bl (Pc hG) _ (x:=⟨t.b,t.l,t.b',t.l'⟩) ⟨ht.n,ht.d⟩,Bl (Pj (AaB hG)) _ ht.m]
 rfl
theorem KC:RT (Ii G) Bs IB:=λz ⟨c,q⟩ b=>by
 rw[Ii,Bs,Bl hG.nat _ (show So z<9223372036854775808 by unfold So;split<;>omega),Cp];congr 2;unfold So;split<;>split<;>omega
end
theorem Jt(h:0<l.length):0<(l++g).length:=by rw[Yac];omega
theorem Kd{U:Type}(e:U->List Nat)(l:List U):0<(Bp e l).length:=Jt (HW _)
theorem A2E(b:Bool)(l:List Nat):0<(FD b l).length:=Jt (HW _)
theorem Jn(q:RQ):0<(CD q).length:=Jt (A2E _ _)
theorem RG(t:RTm):0<(Eu t).length:=Jt (Jt (A2E _ _))
theorem Ms(z:Int):0<(Bs z).length:=HW _
theorem Is{U:Type}{e:U->List Nat}(h:∀x,0<(e x).length)(f:Nat->U):0<(Kb e f).length:=by
 have W:Kb e f=e (f 0)++((List.range' 1 7).flatMap λi=>e (f i)):=by rw[Kb,List.range_eq_range'];rfl
 rw[W];exact Jt (h _)
theorem Pw(a:RQ×RQ):0<(GT a).length:=Jt (Jn _)
theorem A0n(s:RQ×List RTm):0<(Kt s).length:=Jt (Jn _)
section
variable {G:Lg} (hG:LgOk G)
include hG
theorem Wd:RT (Hs G) CH PoB:=HI hG (A7N hG) λ_ _=>RG _
theorem JW:RT (EE G) Bj PsB:=HI hG (Wd hG) λ_ _=>Kd _ _
theorem RJ:RT (Lm G) BQ TaB:=HI hG (JW hG) λ_ _=>Kd _ _
theorem Yo:RT (Lx G) CC OrB:=HI hG (Pj (KC hG)) λ_ _=>Is Ms _
theorem A4Y:RT (QK G) GW UnB:=HI hG (Pc hG) λ_ _=>Jn _
theorem A9v:RT (TK G) GT VB:=λa h b=>by
 rw[TK,GT,Yaf,Bl (Pc hG) _ h.1,Bl (Pc hG) _ h.2];rfl
theorem Zn:RT (LT G) Gm BoB:=HI hG (Pj (A9v hG)) λ_ _=>Is Pw _
theorem AbT:RT (sqP G) Kt Acz:=λa h b=>by
 rw[sqP,Kt,Yaf,Bl (Pc hG) _ h.1,Bl (Wd hG) _ h.2];rfl
theorem AaN:RT (WN G) FY CoB:=λk h b=>by
 rw[WN,FY,Yaf,Yaf,Bl (KC hG) _ h.n,Bl (JW hG) _ h.e,Bl (JW hG) _ h.f];rfl
theorem AaQ:RT (MU G) Ix ClB:=λc h b=>by
 rw[MU,Ix];simp only[Yaf];rw[Bl (KC hG) _ h.kind,Bl (Wd hG) _ h.p,Bl (KC hG) _ h.n,Bl (KC hG) _ h.d,Bl (KC hG) _ h.r,Bl (Yo hG) _ h.o,Bl (JW hG) _ h.l,Bl (HI hG (KC hG) λ_ _=>Ms _) _ h.s,Bl (Zn hG) _ h.b];rfl
theorem A9Z:RT (VO G) JH RsB:=λr h b=>by
 rw [VO,JH,List.append_assoc,List.append_assoc,Bl (Pj (KC hG)) _ h.l,Bl (A4Y hG) _ h.q,Bl (Pj (A4Y hG)) _ h.r]
 rfl
theorem AaK:RT (KL G) Kk CrB:=λe h b=>by
 rw [KL,Kk]
 simp only [List.append_assoc]
 rw [Bl (KC hG) _ h.n,Bl (JW hG) _ h.cof,Bl (JW hG) _ h.g,Bl (Yo hG) _ h.o,Bl (RJ hG) _ h.c,Bl (RJ hG) _ h.q,Bl (RJ hG) _ h.s,Bl (A9Z hG) _ h.r,Bl (HI hG (A9v hG) λ_ _=>Pw _) _ h.a,Bl (HI hG (AbT hG) λ_ _=>A0n _) _ h.sq,Bl (HI hG (Pj (Pc hG)) λ_ _=>Is Jn _) _ h.x,Bl (Zn hG) _ h.b]
 rfl
theorem A6o:RT (Lf G) EH FB:=λf h b=>by
 rw[Lf,EH,Yaf,Yaf,Bl (AaN hG) _ h.k,Bl (AaQ hG) _ h.c,Bl (AaK hG) _ h.e];rfl
end
def pG:Lg:=⟨Pp,λn=>decide (n<=65535)⟩
theorem A9r:LgOk pG:=⟨λx C b=>A8b x (Yer C ZbH) b,λn h=>Yal h⟩
theorem WY(a:Nat->Int)(h:In8 a 0 65535):Abs prog 249 [AP (CN a)] (eB true):=by
 refine Ab func249 λy=>?_;rw[ntmps249];refine Go ?_;refine AC (λw e=>∃k,k<=8/\w=8-k/\e=⟨[(1,.ptr 0 0),(2,.d (eB false)),(3,.d (eN k))],[.var 112 ((CN a).map .d)]⟩) ?le ⟨0,by omega,rfl,rfl⟩ ?round
 case le=>exact Ac Zcf ZcB
 case round=>
  rintro w _ ⟨k,B,rfl,rfl⟩;by_cases O:k<8
  .have F:=h k O
   refine Go ?_;exact Ziu
  .obtain rfl:k=8:=by omega
   exact Zfz
def EF(t:Tm):RTm:=⟨decide (t.c.num<0),Aw t.c.num.natAbs,decide ((t.c.den:Int)<0),Aw (t.c.den:Int).natAbs,t.m⟩
theorem KA(P:List Tm):BS P=Lh (P.map EF):=by
 unfold BS Lh;rw[Ycj];rfl
variable{vc:List Tm}
theorem VN(h:n<vc.length):Fo (vc.map EF) n=EF (BA vc n):=by
 unfold Fo BA;rw[Yaa,Yav,Yab h];simp[Yaa,Yab h]
theorem Aah(t:Tm):QOk (EF t).b (EF t).l (EF t).b' (EF t).l':=⟨t.c,rfl,rfl,rfl,rfl⟩
theorem AaI(h:∀k,k<vc.length->0<k->0<lx (BA vc (k-1)).m (BA vc k).m):Dec vc:=by
 unfold Dec;rw[Ycv]
 have key:∀d i,i+d+1<vc.length->0<lx (BA vc i).m (BA vc (i+d+1)).m:=by
  intro d
  induction d with
  |zero=>intro i J;have:=h (i+1) J ZbC;exact ZjY
  |succ d u=>
   intro i J;have q:=u i ZbC;have A:=h (i+(d+1)+1) J ZbC;rw[show i+(d+1)+1-1=i+d+1 by omega]at A;exact Sx q A
 intro i j J X S;have q:=key (j-i-1) i ZbC;rw[show i+(j-i-1)+1=j by omega]at q;have e:∀k (B:k<vc.length),BA vc k=vc[k]:=λk B=>Zkl
 rwa [e i J,e j X]at q
theorem AaJ(h:Dec vc)(B:n<vc.length)(c:0<n):0<lx (BA vc (n-1)).m (BA vc n).m:=by
 unfold Dec at h;rw[Ycv]at h;have e:∀n (B:n<vc.length),BA vc n=vc[n]:=λn B=>Zkl
 rw[e _ B,e (n-1) ZbC];exact h (n-1) n ZbC B ZbC
theorem XJ(h:Canon vc)(J:PIn vc 0 65535):In (vc.map EF):=λk B=>by
 rw[Yap]at B;rw[VN B];refine⟨⟨Aah _,λe=>?_,J _ (DC B)⟩,λc=>?_⟩
 .have q:=h.2 _ (DC B)
  have A:Aw (BA vc k).c.num.natAbs=[]:=e;have:=Br.1 (show(Aw (BA vc k).c.num.natAbs).length=0 by rw[A];rfl);exact A2m q ZbC
 .rw [VN ZbC]
  show 0<Iv (BA vc (k-1)).m (BA vc k).m;rw[<-Np];exact AaJ h.1 B c
def FJ(lost:List Nat):Nat->List Value->List (Value×AV)
 |_,[]=>[]
 |i,v::J=>bif lost.contains i then FJ lost (i+1) J else(v,.own i)::FJ lost (i+1) J
theorem Ph(lost:List Nat)(i:Nat)(v:Value)(vs:List Value):FJ lost i (v::vs)=if i∈lost then FJ lost (i+1) vs else(v,.own i)::FJ lost (i+1) vs:=by
 show(bif lost.contains i then FJ lost (i+1) vs else(v,.own i)::FJ lost (i+1) vs)=_;by_cases h:i∈lost
 .rw [Yao h,Ybv.2 h];rfl
 .have : lost.contains i = false := by cases E : lost.contains i with
   |true=>exact absurd (Ybv.1 E) h
   |false=>rfl
  rw[Yaj h,this];rfl
theorem Lv{V:List Nat}:∀{J:List Value} {i:Nat} {p:Value×AV},p∈FJ V i J->∃k,k<J.length/\p=(J.getD k undef,.own (i+k))
 |[],i,p,h=>by cases h
 |v::J,i,p,h=>by
  rw[Ph]at h
  have key:p∈FJ V (i+1) J->∃k,k<(v::J).length/\p=((v::J).getD k undef,.own (i+k)):=λh=>by
   obtain⟨k,q,A⟩:=Lv h;exact⟨k+1,by simpa using q,by rw[A,show i+1+k=i+(k+1)by omega];rfl⟩
  split at h
  .exact key h
  .rcases YaL.1 h with rfl | h
   .exact ⟨0,by simp,rfl⟩
   .exact key h
theorem Sh{lost:List Nat}:∀{vs:List Value} {i k:Nat},k<vs.length->i+k∉lost->(vs.getD k undef,AV.own (i+k))∈FJ lost i vs
 | [],i,k,h,_=>by simp at h
 | v::vs,i,0,h,hl=>by
  rw [Ph,Yaj (by simpa using hl)]
  exact Ybk
 | v::vs,i,k+1,h,hl=>by
  have:=Sh (lost:=lost) (vs:=vs) (i:=i+1) (k:=k) (by simpa using h) (by rwa [show i+1+k=i+(k+1) by omega])
  rw [show i+1+k=i+(k+1) by omega] at this
  rw [Ph]
  split
  .exact this
  .exact Ybc _ this
def IU(s:GS)(V:Nat->Value)(F:List Ow)(b:Nat):Prop:=∃i o,F[i]? = some o/\OwB s (V i) o b
def Sep(s:GS)(V:Nat->Value)(F:List Ow):Prop:=∀i j o x,i≠j->F[i]? = some o->F[j]? = some x->∀b,OwB s (V i) o b->¬OwB s (V j) x b
structure Aft(s:GS)(ρ:Nat->Value)(hp:List Ow)(lost:List Nat)(s':GS)(ρ':Nat->Value)(hp':List Ow):Prop where
 le:GS.LeX (IU s ρ hp) s s'
 ok:s'.Ok
 mem:HpOk 0 ρ' s' hp'
 sep:Sep s' ρ' hp'
 own:∀i o b,hp'[i]? = some o->OwB s' (ρ' i) o b->IU s ρ hp b\/s.w.heap.size<=b
 kp:∀i,i<hp.length->i∉lost->ρ' i=ρ i
 len:hp.length<=hp'.length
def Con(P:Program)(f:FuncId)(args:List AV)(F:List Ow)(A:List Nat)(Q:AV->List Ow->Prop):Prop:=
 (∀args w,(callFunc f args).run P w=.ok (.enter f args) w)/\∀(s:GS) (V:Nat->Value) (J:List Value),s.Ok->HpOk 0 V s F->Sep s V F->J.length=args.length->(∀(k:Nat) av,args[k]? = some av->AVr F.length V s av (J.getD k undef)) ->
  Calls P f J.toArray s.w λe N=>∃v,e=.returned v/\∃(j:GS) (R:Nat->Value) (r:AV) (q:List Ow),Q r q/\j.w=N/\AVr q.length R j r v/\Aft s V F A j R q
variable{R:List AV}
theorem Con.mono{f:FuncId}{lost:List Nat}{Q I:AV->List Ow->Prop}(h:Con P f R H lost Q)(m:∀r C,Q r C->I r C):Con P f R H lost I:=
 ⟨h.1,λs V J q A K B k=>(h.2 s V J q A K B k).mono λe N ⟨v,b,j,F,r,C,G,E⟩=>⟨v,b,j,F,r,C,m r C G,E⟩⟩
def Jo:Nat->List AV->List (Nat×AV)
 |_,[]=>[]
 |i,d::S=>(i,d)::Jo (i+1) S
theorem KB:∀{S:List AV} {i t:Nat} {G:AV},Ce (Jo i S) t=some G->i<=t/\S[t-i]? = some G
 |[],i,t,G,h=>by cases h
 |d::S,i,t,G,h=>by
  unfold Jo at h;rw[CX]at h;split at h
  .rename_i e
   subst e;cases h;exact⟨Yai _,by simp⟩
  .rename_i e
   obtain⟨q,A⟩:=KB h;refine⟨by omega,?_⟩;rw[show t-i=(t-(i+1))+1 by omega];simpa using A
structure RetsA(P:Program)(σ:AS)(rs:Array ResultVar)(r:AV):Prop where
 run:∀(base:Nat) (ρ:Nat->Value) (s:GS) (tmps:Array Value) (fn:Func),fn.results=rs->HpOk base ρ s σ.hp->(∀t av,Ce σ.fr t=some av->AVr σ.hp.length ρ s av (tmps.getD t undef))->∃v,(results fn tmps).run P s.w=.ok v s.w/\AVr σ.hp.length ρ s r v
theorem RetsA.d{σ:AS}{rs:Array ResultVar}(h:Rets P σ rs r):RetsA P σ rs (.d r):=⟨h.run⟩
theorem RetsA.one{r:AV}(h:Ce ve.fr n=some r):RetsA P ve #[.tmp n] r:=⟨λ_ _ _ C _ p _ c=>⟨_,UF p (rv:=.tmp n) rfl,c n r h⟩⟩
theorem RetsA.none{σ:AS}:RetsA P σ #[] (.d Cs):=⟨λ_ _ s C c p _ _=>⟨.tuple #[],by unfold results;rw[p];simp,trivial⟩⟩
structure FinC(P:Program)(fn:Func)(lost:List Nat)(vs:List Value)(Q:AV->List Ow->Prop)(e:Exit)(σ:AS):Prop where
 how:e=.ret\/e=.normal
 res:∃r hp',RetsA P σ fn.results r/\hp'=σ.hp.set vs.length .dead/\Q r hp'
 pin:σ.hp[vs.length]? = some (.pin (FJ lost 0 vs))
variable{vy:AV->List Ow->Prop}
theorem Tz(G:P.funcs[vd]? = some vQ)(E:vQ.body=some vp)(xf:∀R w,(callFunc vd R).run P w=.ok (.enter vd R) w)(g:Nat.ble R.length vQ.ntmps=true)
  (h:∀(y:An) (Z:List Value),Z.length=H.length->AWp P y vQ.ntmps vp (FinC P vQ l Z vy) ⟨Jo 0 R,H++[.pin (FJ l 0 Z)]⟩):Con P vd R H l vy:=by
 refine⟨xf,λs V Z S m xg I M=>calls_of_wp G E ?_⟩;have z:R.length<=vQ.ntmps:=by simpa[YdL]using g
 have xa:((List.range H.length).map V).length=H.length:=by simp
 have d:(H++[Ow.pin (FJ l 0 ((List.range H.length).map V))]).length=H.length+1:=by simp
 have xb:∀i o,(H++[Ow.pin (FJ l 0 ((List.range H.length).map V))])[i]? = some o->H[i]? = some o\/o=Ow.pin (FJ l 0 ((List.range H.length).map V)):=λi o J=>ZaI
 have Iw:∀k,k<H.length->((List.range H.length).map V).getD k undef=V k:=λk B=>by
  exact Zik
 refine wp_mono ((h ⟨s,IU s V H,[]⟩ ((List.range H.length).map V) xa).run { tmps:=Z.toArray++Array.replicate (vQ.ntmps-Z.toArray.size) undef,defers:=[] } s.w ⟨s,V,rfl,GS.LeX.refl _ s,S,λt Y L=>?_,by simp;omega,rfl,λi o J=>?_,λi j o x T J X b xd xh=>?_,λi o b J xd=>?_⟩) ?_
 .exact ZaJ
 .show OwR 0 (H++[Ow.pin _]).length V s i o
  rw[d];rcases xb i o J with q | rfl
  .exact (m i o q).mono (Yej _) (λ_ _=>rfl) (Cu q)
  .exact ZaK
 .exact ZaL
 .rcases xb i o J with q | rfl
  .exact .inl ⟨i,o,q,xd⟩
  .exact xd.elim
 .intro e a w ⟨τ,⟨C,⟨r,N,W,xk,n⟩,xj⟩,F,f,c,u⟩
  subst c;subst xk;rw[xa]at xj n;obtain⟨v,q,A⟩:=W.run _ f F a.tmps vQ rfl u.hp u.fr
  have O:∀i o,(τ.hp.set H.length .dead)[i]? = some o->o=Ow.dead\/τ.hp[i]? = some o:=λi o J=>ZaM
  have U:Aft s V H l F f (τ.hp.set H.length .dead):=ZaN
  have xe:AVr (τ.hp.set H.length .dead).length f F r v:=by rw[YbL];exact A
  rcases C with rfl | rfl
  .exact ⟨u.df,v,q,v,rfl,F,f,r,_,n,rfl,xe,U⟩
  .exact ⟨u.df,v,q,v,rfl,F,f,r,_,n,rfl,xe,U⟩
section
variable {P:Program} {f:FuncId} {fn:Func} {c:Code} {args:List AV} {Q:AV->List Ow->Prop} (hf:P.funcs[f]? = some fn) (hb:fn.body=some c) (hcf:∀args w,(callFunc f args).run P w=.ok (.enter f args) w) (hn:Nat.ble args.length fn.ntmps=true)
include hf hb hcf hn
end
variable{uh:List Value}
theorem Bt{r:AV}(h:RetsA P ve vQ.results r)(a:Gk ve.hp uh.length .dead=some H)(k:vy r H)(F:ve.hp[uh.length]? = some (.pin (FJ l 0 uh))):FinC P vQ l uh vy .ret ve:=⟨.inl rfl,⟨r,H,h,(Ev a),k⟩,F⟩
theorem AW{r:AV}(h:RetsA P ve vQ.results r)(a:Gk ve.hp uh.length .dead=some H)(k:vy r H)(F:ve.hp[uh.length]? = some (.pin (FJ l 0 uh))):FinC P vQ l uh vy .normal ve:=⟨.inr rfl,⟨r,H,h,(Ev a),k⟩,F⟩
