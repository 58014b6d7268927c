/- Part 17 of the proof of hilbertMatchesReference_holds. No condition. -/
import Derived.Test.YtialdhnijjnpaaaGreatQg3
import Derived.Test.YtialdhnijjnpaaaGreatQg4
import Derived.Test.YtialdhnijjnpaaaGreatQg9
import Derived.Test.YtialdhnijjnpaaaGreatQg14
import Derived.Test.YtialdhnijjnpaaaGreatQg15
import Derived.Test.YtialdhnijjnpaaaGreatQg16
set_option linter.unusedSimpArgs false
set_option linter.unusedVariables false
set_option maxRecDepth 100000
namespace Go.Proofs.YtialdhnijjnpaaaGreat
open Go.RowKit
theorem Az {P : Program} {f : FuncId} {fn : Func} (hf : P.funcs[f]? = some fn) (hn : (fn.name == "runtime.NumGoroutine") = false) (hb : fn.body.isNone = false) (args : Array Value) (w : World) : (callFunc f args).run P w = .ok (.enter f args) w := by
 have:(program).run P w = .ok P w:=rfl
 have hn' : ¬ fn.name = "runtime.NumGoroutine" := by simpa using hn
 have hb':¬fn.body=none:=λe=>by rw [e] at hb;cases hb
 simp [callFunc,this,hf,hn',hb']
theorem Br{P:Program}{f:FuncId}{ds:List D}{r:D}(hcf:∀args w,(callFunc f args).run P w = .ok (.enter f args) w)(h:∀(s:GS) (vs:List Value),s.Ok->vs.length=ds.length->(∀k,k<ds.length->(BG ds k).rel s (vs.getD k undef)) ->
  Calls P f vs.toArray s.w λe w'=>∃v,e = .returned v/\Ext s.w w'/\∀s':GS,s'.w=w'->s'.Ok->(∀b k,s.w.heap.size<=b->b<w'.heap.size->s'.S b k)->GS.Le s s'->r.rel s' v):Abs P f ds r:=by
 refine ⟨hcf,λs vs hok hl hv=>(h s vs hok hl hv).mono λe w' ⟨v,he,hE,hr⟩=>⟨v,he,s.grown w',rfl,EY hE,?_⟩⟩
 exact hr _ rfl ((EY hE).ok hok) (λb k h1 h2=>.inr ⟨h1,h2⟩) (EY hE)
theorem Yl{vs:List Value}(h:vs.length=1):vs=[vs.getD 0 undef]:=by
 match vs,h with
 | [a],_=>rfl
theorem Wc{vs:List Value}(h:vs.length=2):vs=[vs.getD 0 undef,vs.getD 1 undef]:=by
 match vs,h with
 | [a,b],_=>rfl
def wD(l:List Nat):D:=⟨λs v=>(slD 136 1 (l.map λx=>[ex (.int .u32 (x:Nat))])).rel s v/\Bh l,λh hc=>⟨(slD _ _ _).st h.1 hc,h.2⟩⟩
theorem Ds{s:GS}{v:Value}{l:List Nat}(h:(wD l).rel s v):Words s.w v l:=by
 obtain ⟨⟨A,c,h1,h2,h3,h4⟩,hs⟩:=h
 simp only [List.length_map] at h1 h2 h4
 refine ⟨A,c,h1,h2,h3,hs,λh0=>?_⟩
 obtain ⟨b,o,h5,h6⟩:=h4 h0
 obtain ⟨_,cs,fz,h7,h8⟩:=h6 0 h0
 refine ⟨b,o,cs,fz,h5,h7,λi hi=>?_⟩
 obtain ⟨h9,cs',fz',h10,h11⟩:=h6 i hi
 rw [h7] at h10
 cases h10
 obtain ⟨_,u,h12,_,h13⟩:=h11 0 (by rw [h9];omega)
 have e:BG ((l.map λx=>[ex (.int .u32 (x:Nat))]).getD i []) 0=ex (.int .u32 (l[i]:Nat)):=by simp [BG,hi]
 rw [e] at h13
 have h13:u=_:=h13
 rw [Nat.mul_one,Nat.add_zero] at h12
 rw [h12,h13]
theorem Gb{s:GS}{v:Value}{l:List Nat}(hok:s.Ok)(h:Words s.w v l):(wD l).rel s v:=by
 obtain ⟨A,c,h1,h2,h3,hs,h4⟩:=h
 refine ⟨⟨A,c,by rw [List.length_map];exact h1,by rw [List.length_map];exact h2,h3,λh0=>?_⟩,hs⟩
 rw [List.length_map] at h0
 obtain ⟨b,o,cs,fz,h5,h6,h7⟩:=h4 h0
 refine ⟨b,o,h5,λk hk=>?_⟩
 rw [List.length_map] at hk
 have e:(l.map λx=>[ex (.int .u32 (x:Nat))]).getD k []=[ex (.int .u32 (l[k]:Nat))]:=by simp [hk]
 rw [e]
 refine ⟨rfl,cs,fz,h6,λj hj=>?_⟩
 obtain rfl:j=0:=by simp at hj;omega
 rw [Nat.mul_one,Nat.add_zero]
 exact ⟨hok.safe b _ ⟨cs,fz,h6⟩,_,h7 k hk,rfl,rfl⟩
def BL(z:Int):List D:=[ex (.bool (decide (z<0))),wD (As z.natAbs)]
def BT(q:Rat):List D:=[ex (.bool (decide (q.num<0))),wD (As q.num.natAbs),ex (.bool (decide ((q.den:Int)<0))),wD (As (q.den:Int).natAbs)]
theorem Oj{s:GS}{v:Value}{l:List Nat}(h:(wD l).rel s v):∃A n c,v = .slice A n c:=by
 obtain ⟨A,c,h1,_⟩:=h.1
 exact ⟨A,_,c,h1⟩
theorem ag2{s:GS}{v:Value}{d0 d1:D}(h:(Bb [d0,d1]).rel s v):∃u0 u1,v = .agg #[u0,u1]/\d0.rel s u0/\d1.rel s u1:=by
 obtain ⟨cs,rfl,h1,h2⟩:=h
 obtain ⟨u0,e0,_,r0⟩:=h2 0 (by simp)
 obtain ⟨u1,e1,_,r1⟩:=h2 1 (by simp)
 refine ⟨u0,u1,?_,r0,r1⟩
 congr 1
 refine Array.ext (by simpa using h1) λi q1 q2=>?_
 simp at q2
 match i,q2 with
 | 0,_=>exact Option.some.inj ((Array.getElem?_eq_getElem q1).symm.trans e0)
 | 1,_=>exact Option.some.inj ((Array.getElem?_eq_getElem q1).symm.trans e1)
theorem ag4{s:GS}{v:Value}{d0 d1 d2 d3:D}(h:(Bb [d0,d1,d2,d3]).rel s v):∃u0 u1 u2 u3,v = .agg #[u0,u1,u2,u3]/\d0.rel s u0/\d1.rel s u1/\d2.rel s u2/\d3.rel s u3:=by
 obtain ⟨cs,rfl,h1,h2⟩:=h
 obtain ⟨u0,e0,_,r0⟩:=h2 0 (by simp)
 obtain ⟨u1,e1,_,r1⟩:=h2 1 (by simp)
 obtain ⟨u2,e2,_,r2⟩:=h2 2 (by simp)
 obtain ⟨u3,e3,_,r3⟩:=h2 3 (by simp)
 refine ⟨u0,u1,u2,u3,?_,r0,r1,r2,r3⟩
 congr 1
 refine Array.ext (by simpa using h1) λi q1 q2=>?_
 simp at q2
 match i,q2 with
 | 0,_=>exact Option.some.inj ((Array.getElem?_eq_getElem q1).symm.trans e0)
 | 1,_=>exact Option.some.inj ((Array.getElem?_eq_getElem q1).symm.trans e1)
 | 2,_=>exact Option.some.inj ((Array.getElem?_eq_getElem q1).symm.trans e2)
 | 3,_=>exact Option.some.inj ((Array.getElem?_eq_getElem q1).symm.trans e3)
theorem A4p{s:GS}{v:Value}{l:List Value}(h:(Bb (l.map ex)).rel s v):v = .agg l.toArray:=by
 obtain ⟨cs,rfl,h1,h2⟩:=h
 congr 1
 refine Array.ext (by simpa using h1) λi q1 q2=>?_
 simp at q2
 obtain ⟨u,e,_,r⟩:=h2 i (by simpa using q2)
 have e2:BG (l.map ex) i=ex l[i]:=by simp [BG,q2]
 rw [e2] at r
 have r:u=l[i]:=r
 rw [Array.getElem?_eq_getElem q1] at e
 rw [Option.some.inj e,r]
 simp
theorem No{s:GS}{v:Value}{q:Rat}(h:(Bb (BT q)).rel s v):∃(b b':Bool) (A A':Option Addr) (n c n' c':Nat),v = .agg #[.bool b,.slice A n c,.bool b',.slice A' n' c']/\IsRat s.w (.bool b) (.slice A n c) (.bool b') (.slice A' n' c') q:=by
 obtain ⟨u0,u1,u2,u3,rfl,h0,h1,h2,h3⟩:=ag4 h
 obtain rfl:u0=_:=h0
 obtain rfl:u2=_:=h2
 obtain ⟨A,n,c,rfl⟩:=Oj h1
 obtain ⟨A',n',c',rfl⟩:=Oj h3
 exact ⟨_,_,A,A',n,c,n',c',rfl,⟨rfl,Ds h1⟩,⟨rfl,Ds h3⟩⟩
theorem UK{s:GS}{q:Rat}{b b':Bool}{A A':Option Addr}{n c n' c':Nat}(hok:s.Ok)(h:IsRat s.w (.bool b) (.slice A n c) (.bool b') (.slice A' n' c') q):(Bb (BT q)).rel s (.agg #[.bool b,.slice A n c,.bool b',.slice A' n' c']):=by
 obtain ⟨⟨h1,h2⟩,h3,h4⟩:=h
 refine ⟨_,rfl,rfl,λk hk=>?_⟩
 have hk:k<4:=hk
 match k,hk with
 | 0,_=>exact ⟨_,rfl,rfl,h1⟩
 | 1,_=>exact ⟨_,rfl,rfl,Gb hok h2⟩
 | 2,_=>exact ⟨_,rfl,rfl,h3⟩
 | 3,_=>exact ⟨_,rfl,rfl,Gb hok h4⟩
theorem CY{s:GS}{v:Value}{z:Int}(h:(Bb (BL z)).rel s v):∃(b:Bool) (A:Option Addr) (n c:Nat),v = .agg #[.bool b,.slice A n c]/\IsInt s.w (.bool b) (.slice A n c) z:=by
 obtain ⟨u0,u1,rfl,h0,h1⟩:=ag2 h
 obtain rfl:u0=_:=h0
 obtain ⟨A,n,c,rfl⟩:=Oj h1
 exact ⟨_,A,n,c,rfl,rfl,Ds h1⟩
theorem Fl{s:GS}{z:Int}{b:Bool}{A:Option Addr}{n c:Nat}(hok:s.Ok)(h:IsInt s.w (.bool b) (.slice A n c) z):(Bb (BL z)).rel s (.agg #[.bool b,.slice A n c]):=by
 obtain ⟨h1,h2⟩:=h
 refine ⟨_,rfl,rfl,λk hk=>?_⟩
 have hk:k<2:=hk
 match k,hk with
 | 0,_=>exact ⟨_,rfl,rfl,h1⟩
 | 1,_=>exact ⟨_,rfl,rfl,Gb hok h2⟩
def AK(a:Nat->Int):List D:=[ex (.int .i64 (a 0)),ex (.int .i64 (a 1)),ex (.int .i64 (a 2)),ex (.int .i64 (a 3)),ex (.int .i64 (a 4)),ex (.int .i64 (a 5)),ex (.int .i64 (a 6)),ex (.int .i64 (a 7))]
theorem Cx{s:GS}{v:Value}{a:Nat->Int}(h:(Bb (AK a)).rel s v):v = .agg (c8 a):=A4p (l:=(c8 a).toList) h
theorem Hv{a:Nat->Int}{i:Nat}(h:i<8):BG (AK a) i=ex (.int .i64 (a i)):=by
 match i,h with
 | 0,_=>rfl
 | 1,_=>rfl
 | 2,_=>rfl
 | 3,_=>rfl
 | 4,_=>rfl
 | 5,_=>rfl
 | 6,_=>rfl
 | 7,_=>rfl
theorem Eu(q:Rat):(BT q).length=4:=rfl
theorem Cq(a:Nat->Int):(AK a).length=8:=rfl
theorem Qp{a b:Nat->Int}(h:Eqv a b):AK a=AK b:=by unfold AK;rw [h 0 (by omega),h 1 (by omega),h 2 (by omega),h 3 (by omega),h 4 (by omega),h 5 (by omega),h 6 (by omega),h 7 (by omega)]
theorem A47(z:Int)(h0:-9223372036854775808<=z)(h1:z<=9223372036854775807):Abs Tryz.prog 60 [ex (.int .i64 z)] (Bb (BT (z:Rat))):=by
 refine Br (Az Tryz.func60 (by kernel_rfl) (by kernel_rfl)) λs vs hok hl hv=>?_
 rw [Yl hl]
 have e0:vs.getD 0 undef = .int .i64 z:=hv 0 (by simp)
 rw [e0]
 exact (Xk z _ h0 h1).mono λe w' ⟨y,y',Y,Y',m,k,m',k',he,hI,hE⟩=>⟨_,he,hE,λs' hw hok' _ _=>by subst hw;exact UK hok' hI⟩
theorem Tv(z:Int)(h0:-9223372036854775808<=z)(h1:z<=9223372036854775807):Abs Tryz.prog 43 [ex (.int .i64 z)] (Bb (BT (z:Rat))):=by
 refine Br (Az Tryz.func43 (by kernel_rfl) (by kernel_rfl)) λs vs hok hl hv=>?_
 rw [Yl hl]
 have e0:vs.getD 0 undef = .int .i64 z:=hv 0 (by simp)
 rw [e0]
 exact (Tu z _ h0 h1).mono λe w' ⟨y,y',Y,Y',m,k,m',k',he,hI,hE⟩=>⟨_,he,hE,λs' hw hok' _ _=>by subst hw;exact UK hok' hI⟩
theorem Ke(z:Int):Abs Tryz.prog 128 [Bb (BL z)] (ex (.int .i64 z.sign)):=by
 refine Br (Az Tryz.func128 (by kernel_rfl) (by kernel_rfl)) λs vs hok hl hv=>?_
 rw [Yl hl]
 obtain ⟨x0,X0,n0,c0,e0,h0⟩:=CY (hv 0 (by simp))
 rw [e0]
 exact (Xt x0 X0 n0 c0 z _ h0).mono λe w' ⟨he,hE⟩=>⟨_,he,hE,λs' hw hok' _ _=>rfl⟩
theorem Mo(p q:Rat):Abs Tryz.prog 41 [Bb (BT p),Bb (BT q)] (ex (.bool (decide (p=q)))):=by
 refine Br (Az Tryz.func41 (by kernel_rfl) (by kernel_rfl)) λs vs hok hl hv=>?_
 rw [Wc hl]
 obtain ⟨x0,x0',X0,X0',n0,c0,n0',c0',e0,h0⟩:=No (hv 0 (by simp))
 obtain ⟨x1,x1',X1,X1',n1,c1,n1',c1',e1,h1⟩:=No (hv 1 (by simp))
 rw [e0,e1]
 exact (Tz x0 x0' X0 X0' n0 c0 n0' c0' x1 x1' X1 X1' n1 c1 n1' c1' p q _ h0 h1).mono λe w' ⟨he,hE⟩=>⟨_,he,hE,λs' hw hok' _ _=>rfl⟩
theorem A4i(a b:Nat->Int):Abs Tryz.prog 74 [Bb (AK a),Bb (AK b)] (ex (.int .i64 (DY a b))):=by
 refine Br (Az Tryz.func74 (by kernel_rfl) (by kernel_rfl)) λs vs hok hl hv=>?_
 rw [Wc hl]
 have e0:=Cx (hv 0 (by simp))
 have e1:=Cx (hv 1 (by simp))
 rw [e0,e1]
 exact (Zy a b _).mono λe w' ⟨he,hE⟩=>⟨_,he,hE,λs' hw hok' _ _=>rfl⟩
theorem NQ(a b:Nat->Int):Abs Tryz.prog 44 [Bb (AK a),Bb (AK b)] (ex (.int .i64 (DY a b))):=by
 refine Br (Az Tryz.func44 (by kernel_rfl) (by kernel_rfl)) λs vs hok hl hv=>?_
 rw [Wc hl]
 have e0:=Cx (hv 0 (by simp))
 have e1:=Cx (hv 1 (by simp))
 rw [e0,e1]
 exact (Xu a b _).mono λe w' ⟨he,hE⟩=>⟨_,he,hE,λs' hw hok' _ _=>rfl⟩
theorem Qy(a:Nat->Int)(h:In8 a (-1000000) 1000000):Abs Tryz.prog 94 [Bb (AK a)] (ex (.int .i64 (CZ a 8))):=by
 refine Br (Az Tryz.func94 (by kernel_rfl) (by kernel_rfl)) λs vs hok hl hv=>?_
 rw [Yl hl]
 have e0:=Cx (hv 0 (by simp))
 rw [e0]
 exact (TY a _ h).mono λe w' ⟨he,hE⟩=>⟨_,he,hE,λs' hw hok' _ _=>rfl⟩
theorem Gv(a:Nat->Int):Abs Tryz.prog 88 [Bb (AK a)] (ex (.int .u8 (Bn a 8))):=by
 refine Br (Az Tryz.func88 (by kernel_rfl) (by kernel_rfl)) λs vs hok hl hv=>?_
 rw [Yl hl]
 have e0:=Cx (hv 0 (by simp))
 rw [e0]
 exact (Rr a _).mono λe w' ⟨he,hE⟩=>⟨_,he,hE,λs' hw hok' _ _=>rfl⟩
theorem Kj(a:Nat->Int)(h:In8 a 0 65535):Abs Tryz.prog 87 [Bb (AK a)] (ex (.bool true)):=by
 refine Br (Az Tryz.func87 (by kernel_rfl) (by kernel_rfl)) λs vs hok hl hv=>?_
 rw [Yl hl]
 have e0:=Cx (hv 0 (by simp))
 rw [e0]
 exact (Qv a _ h).mono λe w' ⟨he,hE⟩=>⟨_,he,hE,λs' hw hok' _ _=>rfl⟩
theorem Qw(a:Nat->Int)(h:¬In8 a 0 65535):Abs Tryz.prog 87 [Bb (AK a)] (ex (.bool false)):=by
 refine Br (Az Tryz.func87 (by kernel_rfl) (by kernel_rfl)) λs vs hok hl hv=>?_
 rw [Yl hl]
 have e0:=Cx (hv 0 (by simp))
 rw [e0]
 exact (OS a _ h).mono λe w' ⟨he,hE⟩=>⟨_,he,hE,λs' hw hok' _ _=>rfl⟩
theorem A1O{l:List D}{k:Nat}:(l.map AV.d)[k]? = if k<l.length then some (.d (BG l k)) else none:=by
 rw [List.getElem?_map]
 split
 .rename_i h
  simp [BG,h]
 .rename_i h
  simp [List.getElem?_eq_none (Nat.le_of_not_lt h)]
section
variable {P:Program} {hp:List Ow} {o:Oper} {arg:Operand->AV}
theorem TO{T U:TypeId}{x y:Operand}{k:IntKind}{a b c:Int}(hop:o.op = .binOp .add T x y U)(hx:arg x = .d (ex (.int k a)))(hy:arg y = .d (ex (.int k b)))(hc:k.wrap (a+b)=c):Quiet P hp o arg (.d (ex (.int k c))):=
 DA hop hx hy λw=>by simp [eqGuard,binOp,Op.intArith,hc]
theorem Quiet.succ{T U:TypeId}{x y:Operand}{a:Nat}(hop:o.op = .binOp .add T x y U)(hx:arg x = .d (ex (.int .i64 (a:Nat))))(hy:arg y = .d (ex (.int .i64 1)))(h1:(a:Int)<9223372036854775807):Quiet P hp o arg (.d (ex (.int .i64 ((a+1:Nat):Int)))):=
 Quiet.add hop hx hy (by omega) (by omega)
theorem Quiet.quo{T U:TypeId}{x y:Operand}{a b:Int}(hop:o.op = .binOp .quo T x y U)(hx:arg x = .d (ex (.int .i64 a)))(hy:arg y = .d (ex (.int .i64 b)))(h0:0<=a)(h1:a<=9223372036854775807)(hb:0<b):Quiet P hp o arg (.d (ex (.int .i64 (a/b)))):=
 DA hop hx hy λw=>by
  have h2:a/b<=a:=Int.ediv_le_self b h0
  have h3:0<=a/b:=Int.ediv_nonneg h0 (by omega)
  have h4:a.tdiv b=a/b:=Int.tdiv_eq_ediv_of_nonneg h0
  have e:IntKind.i64.wrap (a/b)=a/b:=IntWalk.i64_in _ (by omega)
  have hne:b≠0:=by omega
  simp [eqGuard,binOp,Op.intDiv,hne,h4,e]
theorem Quiet.rem{T U:TypeId}{x y:Operand}{k:IntKind}{a b:Int}(hop:o.op = .binOp .rem T x y U)(hx:arg x = .d (ex (.int k a)))(hy:arg y = .d (ex (.int k b)))(h0:0<=a)(hb:0<b):Quiet P hp o arg (.d (ex (.int k (a%b)))):=
 DA hop hx hy λw=>by
  have h4:a.tmod b=a%b:=Int.tmod_eq_emod_of_nonneg h0
  have hne:b≠0:=by omega
  simp [eqGuard,binOp,Op.intDiv,hne,h4]
theorem Quiet.max{x y:Operand}{tys:Array TypeId}{k:IntKind}{a b:Int}(hop:o.op = .call { callee:=.builtin .max,args:=#[x,y],argTypes:=tys })(hx:arg x = .d (ex (.int k a)))(hy:arg y = .d (ex (.int k b))):Quiet P hp o arg (.d (ex (.int k (Max.max a b)))):=by
 refine ⟨λbase s ρ ev hok hbs hhp h=>?_⟩
 have h1:=h x (by rw [hop];simp [Op.operands,Call.operands])
 have h2:=h y (by rw [hop];simp [Op.operands,Call.operands])
 rw [hx] at h1;rw [hy] at h2
 have e1:ev x = .int k a:=h1
 have e2:ev y = .int k b:=h2
 refine Bk (v:=.int k (Max.max a b)) ?_ ⟨GS.Le.refl s,rfl⟩
 have e3:(if b>a then b else a)=Max.max a b:=by
  rw [Int.max_def]
  by_cases h:a<=b
  .rw [if_pos h];split<;>omega
  .rw [if_neg h,if_neg (by omega)]
 simp only [execOp,hop,resolve,invoke,builtin,Sem.run_bind,Sem.run_pure,Result.andThen_ok,List.map_toArray,List.map_cons,List.map_nil,e1,e2,Builtin.max_,List.foldlM_cons,List.foldlM_nil,Builtin.max2,e3]
theorem Quiet.min{x y:Operand}{tys:Array TypeId}{k:IntKind}{a b:Int}(hop:o.op = .call { callee:=.builtin .min,args:=#[x,y],argTypes:=tys })(hx:arg x = .d (ex (.int k a)))(hy:arg y = .d (ex (.int k b))):Quiet P hp o arg (.d (ex (.int k (Min.min a b)))):=by
 refine ⟨λbase s ρ ev hok hbs hhp h=>?_⟩
 have h1:=h x (by rw [hop];simp [Op.operands,Call.operands])
 have h2:=h y (by rw [hop];simp [Op.operands,Call.operands])
 rw [hx] at h1;rw [hy] at h2
 have e1:ev x = .int k a:=h1
 have e2:ev y = .int k b:=h2
 refine Bk (v:=.int k (Min.min a b)) ?_ ⟨GS.Le.refl s,rfl⟩
 have e3:(if b<a then b else a)=Min.min a b:=by
  rw [Int.min_def]
  by_cases h:a<=b
  .rw [if_pos h,if_neg (by omega)]
  .rw [if_neg h];split<;>omega
 simp only [execOp,hop,resolve,invoke,builtin,Sem.run_bind,Sem.run_pure,Result.andThen_ok,List.map_toArray,List.map_cons,List.map_nil,e1,e2,Builtin.min_,List.foldlM_cons,List.foldlM_nil,Builtin.min2,e3]
theorem Px{α:Type}[Inhabited α]{x y:Operand}{t:TypeId}{e n b n' b' T sz k:Nat}{d:TypeDesc}{z z':Value}{f:α->List D}{l:List α}{κ:IntKind}(hop:o.op = .indexAddr t x y)(hx:Ed hp (arg x)=some (slD T sz (l.map f)))(hy:arg y = .d (ex (.int κ (k:Nat))))(ht:Tab P t (.slice e) n b z)(he:Tab P e d n' b' z')(hsz:n'=sz)(hk:k<l.length):Quiet P hp o arg (.d (Iw T (f (l.getD k default)))):=by
 have h1:=Quiet.index (P:=P) (hp:=hp) hop hx hy ht he hsz (by omega) (by simp;omega)
 have e1:(l.map f).getD ((k:Nat):Int).toNat []=f (l.getD k default):=by
  show (l.map f).getD k []=_
  simp [List.getD_eq_getElem?_getD,hk]
 rwa [e1] at h1
theorem Pv{x:Operand}{t:TypeId}{d:TypeDesc}{n b T:Nat}{z:Value}{ds:List D}(hop:o.op = .load t x)(hx:arg x = .d (Iw T ds))(ht:Tab P t d n b z)(hd:Eb d=true)(hn:ds.length=n):Quiet P hp o arg (.d (Bb ds)):=by
 have:=RM (P:=P) (hp:=hp) hop hx ht hd (by omega)
 rwa [<-hn,List.take_length] at this
theorem Ro{hp:List Ow}:∀(l:List D),To hp (l.map .d)=some l
 | []=>rfl
 | x::l=>by simp only [List.map_cons,To,Ed,Ro l]
theorem RN{x:Operand}{t:TypeId}{d:TypeDesc}{n b T id off:Nat}{z:Value}{ds:List D}(hop:o.op = .load t x)(hx:arg x = .ptr id off)(hh:hp[id]? = some (.var T (ds.map .d)))(ht:Tab P t d n b z)(hd:Eb d=true)(hn:Nat.ble (off+n) ds.length=true):Quiet P hp o arg (.d (Bb ((ds.drop off).take n))):=
 RL hop hx hh ht hd (by rw [<-List.map_drop,<-List.map_take];exact Ro _) (by have:=Nat.le_of_ble_eq_true hn;simpa using this)
theorem Jz{x:Operand}{t:TypeId}{d:TypeDesc}{n b T id off:Nat}{z:Value}{ds:List D}(hop:o.op = .load t x)(hx:arg x = .ptr id off)(hh:hp[id]? = some (.var T (ds.map .d)))(ht:Tab P t d n b z)(hd:Eb d=false)(hn:off<ds.length):Quiet P hp o arg (.d (BG ds off)):=
 Jx hop hx hh ht hd (by rw [A1O,if_pos hn])
end
section
variable {P:Program} {s0:An} {n:Nat} {ops:Array Oper} {Q:Exit->AS->Prop} {rest:List Oper} {o:Oper} {σ:AS}
theorem Ue{T T0:TypeId}{d:TypeDesc}{b id m:Nat}{z:Value}{x y:Operand}{cells:List AV}{ds:List D}(hop:o.op = .store T x y)(hg:o.guard=none)(hds:o.dst=none)(hx:σ.arg x = .ptr id 0)(hy:σ.arg y = .d (Bb ds))(hh:σ.hp[id]? = some (.var T0 cells))(ht:Tab P T d m b z)(hm:ds.length=m)(hoff:cells.length=m)
  (h:AWl P s0 n ops Q rest { fr:=σ.fr,hp:=σ.hp.set id (.var T0 (ds.map .d)) }):AWl P s0 n ops Q (o::rest) σ:=by
 refine Uf hop hg hds hx hy hh ht hm (by omega) ?_
 have:Ii cells 0 (ds.map .d)=ds.map .d:=by
  unfold Ii
  rw [List.take_zero,List.nil_append,List.drop_eq_nil_of_le (by simp;omega),List.append_nil]
 rw [this]
 exact h
theorem Ku{T T0:TypeId}{d:TypeDesc}{b id off:Nat}{z:Value}{x y:Operand}{cs:List D}{u:D}(hop:o.op = .store T x y)(hg:o.guard=none)(hds:o.dst=none)(hx:σ.arg x = .ptr id off)(hy:σ.arg y = .d u)(hh:σ.hp[id]? = some (.var T0 (cs.map .d)))(ht:Tab P T d 1 b z)(h1:One σ.hp (.d u))(hoff:off<cs.length)
  (h:AWl P s0 n ops Q rest { fr:=σ.fr,hp:=σ.hp.set id (.var T0 ((cs.set off u).map .d)) }):AWl P s0 n ops Q (o::rest) σ:=by
 refine ME hop hg hds hx hy hh ht h1 (by simpa using hoff) ?_
 have:(cs.map AV.d).set off (.d u)=(cs.set off u).map .d:=by rw [List.map_set]
 rw [this]
 exact h
theorem Uj{T:TypeId}{d:TypeDesc}{m b:Nat}{z:Value}(hop:o.op = .alloc T)(hg:o.guard=none)(ht:Tab P T d m b z)(hT:Nat.beq T 136=false)(h1:one1 z.cells.toList=true)(hd:Sn o.dst n=true)(h:AWl P s0 n ops Q rest (σ.new o.dst (.ptr σ.hp.length 0) (.var T ((z.cells.toList.map ex).map .d)))):AWl P s0 n ops Q (o::rest) σ:=by
 refine AWl.alloc hop hg ht (Nat.ne_of_beq_eq_false hT) h1 hd ?_
 have:Yh z.cells.toList=(z.cells.toList.map ex).map .d:=by simp [Yh]
 rw [this]
 exact h
end
def A54(fr:List (Nat×AV)):Operand->Option AV
 | .tmp t=>CE fr t
 | .const v=>some (.d (ex v))
 | .global g=>some (.d (ex (.pointer (some ⟨g,0,none⟩))))
 | .func f=>some (.d (ex (.func (.func f) #[] #[])))
theorem ao{fr:List (Nat×AV)}{hp:List Ow}{x:Operand}{av:AV}(h:A54 fr x=some av):AS.arg ⟨fr,hp⟩ x=av:=by
 cases x with
 | tmp t=>
  show (CE fr t).getD (.d Cp)=av
  have h:CE fr t=some av:=h
  rw [h];rfl
 | const v=>exact Option.some.inj h
 | global g=>exact Option.some.inj h
 | func f=>exact Option.some.inj h
theorem TH{α:Type}{P:Program}{hp:List Ow}{o:Oper}{arg:Operand->AV}{x:Operand}{t:TypeId}{e n b T sz:Nat}{z:Value}{f:α->List D}{l:List α}(hop:o.op = .call { callee:=.builtin .len,args:=#[x],argTypes:=#[t] })(hx:Ed hp (arg x)=some (slD T sz (l.map f)))(ht:Tab P t (.slice e) n b z):Quiet P hp o arg (.d (ex (.int .i64 (l.length:Nat)))):=by
 have:=Quiet.len (P:=P) hop hx ht
 rwa [List.length_map] at this
def Ko:List (Nat×Nat)->Nat->Option Nat
 | [],_=>none
 | p::r,t=>bif Nat.beq p.1 t then some p.2 else Ko r t
theorem LU:∀{es:List (Nat×Nat)} {t j:Nat},Ko es t=some j->∃p,es.find? (λp=>p.1==t)=some p/\p.2=j
 | [],_,_,h=>by cases h
 | p::r,t,j,h=>by
  unfold Ko at h
  cases hb:Nat.beq p.1 t with
  | true=>rw [hb] at h;cases h;exact ⟨p,by rw [List.find?_cons,Nat.eq_of_beq_eq_true hb];simp,rfl⟩
  | false=>
   rw [hb] at h
   obtain ⟨q,h1,h2⟩:=LU h
   refine ⟨q,?_,h2⟩
   rw [List.find?_cons]
   have:(p.1==t)=false:=by simpa using Nat.ne_of_beq_eq_false hb
   rw [this]
   exact h1
theorem LV:∀{es:List (Nat×Nat)} {t:Nat},Ko es t=none->es.find? (λp=>p.1==t)=none
 | [],_,_=>rfl
 | p::r,t,h=>by
  unfold Ko at h
  cases hb:Nat.beq p.1 t with
  | true=>rw [hb] at h;cases h
  | false=>
   rw [hb] at h
   rw [List.find?_cons]
   have:(p.1==t)=false:=by simpa using Nat.ne_of_beq_eq_false hb
   rw [this]
   exact LV h
def Gg:Option HR->Option AV
 | some (.av r)=>some r
 | _=>none
def A53(fr:List (Nat×AV))(rs:List HR)(es:List (Nat×Nat)):Operand->Option AV
 | .tmp t=>match Ko es t with
  | some j=>Gg rs[j]?
  | none=>CE fr t
 | .const v=>some (.d (ex v))
 | .global _=>none
 | .func f=>some (.d (ex (.func (.func f) #[] #[])))
theorem ah{fr:List (Nat×AV)}{hp:List Ow}{rs:List HR}{es:List (Nat×Nat)}{x:Operand}{av:AV}(h:A53 fr rs es x=some av):KF ⟨fr,hp⟩ rs es x=av:=by
 cases x with
 | tmp t=>
  replace h:(match Ko es t with
   | some j=>Gg rs[j]?
   | none=>CE fr t)=some av:=h
  show (match es.find? (λp=>p.1==t) with
   | some p=>match rs[p.2]? with
    | some h=>h.val
    | none=>.d Cp
   | none=>(CE fr t).getD (.d Cp))=av
  cases hf:Ko es t with
  | some j=>
   rw [hf] at h
   replace h:Gg rs[j]? = some av:=h
   obtain ⟨p,h1,h2⟩:=LU hf
   simp only [h1,h2]
   cases hr:rs[j]? with
   | none=>rw [hr] at h;cases h
   | some r=>
    rw [hr] at h
    cases r with
    | av r=>cases h;rfl
    | new T cs=>cases h
  | none=>
   rw [hf] at h
   simp only [LV hf]
   have h:CE fr t=some av:=h
   rw [h];rfl
 | const v=>exact Option.some.inj h
 | global g=>cases h
 | func f=>exact Option.some.inj h
def Dt:List Ow->Ow->Option (List Ow)
 | [],x=>some [x]
 | o::l,x=>match Dt l x with
  | some r=>some (o::r)
  | none=>none
theorem CI:∀{l:List Ow} {x:Ow} {r:List Ow},Dt l x=some r->r=l++[x]
 | [],x,r,h=>by cases h;rfl
 | o::l,x,r,h=>by
  unfold Dt at h
  split at h
  .rename_i r' h'
   cases h
   rw [CI h']
   rfl
  .cases h
def Fk:List Ow->Option Nat
 | []=>some 0
 | _::l=>match Fk l with
  | some k=>some (k+1)
  | none=>none
theorem Ea:∀{l:List Ow} {k:Nat},Fk l=some k->k=l.length
 | [],k,h=>by cases h;rfl
 | o::l,k,h=>by
  unfold Fk at h
  split at h
  .rename_i r' h'
   cases h
   rw [Ea h']
   rfl
  .cases h
def Do:List Ow->Nat->Ow->Option (List Ow)
 | [],_,_=>none
 | _::l,0,x=>some (x::l)
 | o::l,i+1,x=>match Do l i x with
  | some r=>some (o::r)
  | none=>none
theorem Cs:∀{l:List Ow} {i:Nat} {x:Ow} {r:List Ow},Do l i x=some r->r=l.set i x
 | [],_,_,_,h=>by cases h
 | _::l,0,x,r,h=>by cases h;rfl
 | o::l,i+1,x,r,h=>by
  unfold Do at h
  split at h
  .rename_i r' h'
   cases h
   rw [Cs h']
   rfl
  .cases h
def exO:List Value->Option (List D)
 | []=>some []
 | v::l=>match exO l with
  | some r=>some (ex v::r)
  | none=>none
theorem LY:∀{l:List Value} {r:List D},exO l=some r->r=l.map ex
 | [],r,h=>by cases h;rfl
 | v::l,r,h=>by
  unfold exO at h
  split at h
  .rename_i r' h'
   cases h
   rw [LY h']
   rfl
  .cases h
def Ur:Nat->List D->Option (List D)
 | 0,_=>some []
 | _+1,[]=>none
 | n+1,d::l=>match Ur n l with
  | some r=>some (d::r)
  | none=>none
theorem PQ:∀{n:Nat} {l r:List D},Ur n l=some r->r=l.take n/\n<=l.length
 | 0,l,r,h=>by cases h;exact ⟨rfl,Nat.zero_le _⟩
 | n+1,[],r,h=>by cases h
 | n+1,d::l,r,h=>by
  unfold Ur at h
  split at h
  .rename_i r' h'
   cases h
   obtain ⟨h1,h2⟩:=PQ h'
   exact ⟨by rw [h1];rfl,by simpa using h2⟩
  .cases h
def YA:Nat->Nat->List D->Option (List D)
 | 0,n,l=>Ur n l
 | _+1,_,[]=>none
 | o+1,n,_::l=>YA o n l
theorem Uy:∀{o n:Nat} {l r:List D},YA o n l=some r->r=(l.drop o).take n/\o+n<=l.length
 | 0,n,l,r,h=>by
  obtain ⟨h1,h2⟩:=PQ (n:=n) (l:=l) (r:=r) (by cases l<;>exact h)
  exact ⟨h1,by omega⟩
 | o+1,n,[],r,h=>by cases h
 | o+1,n,d::l,r,h=>by
  obtain ⟨h1,h2⟩:=Uy (o:=o) (by exact h)
  exact ⟨h1,by simp;omega⟩
def atO:Nat->List D->Option D
 | _,[]=>none
 | 0,d::_=>some d
 | i+1,_::l=>atO i l
theorem Pm:∀{i:Nat} {l:List D} {d:D},atO i l=some d->d=BG l i/\i<l.length
 | i,[],d,h=>by cases i<;>cases h
 | 0,x::l,d,h=>by cases h;exact ⟨rfl,by simp⟩
 | i+1,x::l,d,h=>by
  obtain ⟨h1,h2⟩:=Pm (i:=i) (by exact h)
  exact ⟨h1,by simpa using h2⟩
def YP:List D->List D->Option (List D)
 | [],r=>some r
 | d::l,r=>match YP l r with
  | some x=>some (d::x)
  | none=>none
theorem UM:∀{l r x:List D},YP l r=some x->x=l++r
 | [],r,x,h=>by cases h;rfl
 | d::l,r,x,h=>by
  unfold YP at h
  split at h
  .rename_i x' h'
   cases h
   rw [UM h']
   rfl
  .cases h
def Vw:Nat->List D->Option (List D)
 | 0,l=>some l
 | _+1,[]=>none
 | n+1,_::l=>Vw n l
theorem QZ:∀{n:Nat} {l r:List D},Vw n l=some r->r=l.drop n/\n<=l.length
 | 0,l,r,h=>by cases l<;>(cases h;exact ⟨rfl,Nat.zero_le _⟩)
 | n+1,[],r,h=>by cases h
 | n+1,d::l,r,h=>by
  obtain ⟨h1,h2⟩:=QZ (n:=n) (by exact h)
  exact ⟨h1,by simpa using h2⟩
def Sz:List D->Nat->List D->Option (List D)
 | l,0,es=>match Vw es.length l with
  | some r=>YP es r
  | none=>none
 | [],_+1,_=>none
 | d::l,o+1,es=>match Sz l o es with
  | some r=>some (d::r)
  | none=>none
theorem Oy:∀{l:List D} {o:Nat} {es r:List D},Sz l o es=some r->r=Nf l o es/\o+es.length<=l.length
 | l,0,es,r,h=>by
  have h':(match Vw es.length l with
   | some r=>YP es r
   | none=>none)=some r:=by cases l<;>exact h
  split at h'
  .rename_i r' h1
   obtain ⟨h2,h3⟩:=QZ h1
   rw [UM h',h2]
   exact ⟨by simp [Nf],by omega⟩
  .cases h'
 | [],o+1,es,r,h=>by cases h
 | d::l,o+1,es,r,h=>by
  unfold Sz at h
  split at h
  .rename_i r' h1
   cases h
   obtain ⟨h2,h3⟩:=Oy h1
   rw [h2]
   refine ⟨?_,by simp;omega⟩
   simp only [Nf,List.take_succ_cons,List.cons_append]
   rw [show o+1+es.length=(o+es.length)+1 by omega,List.drop_succ_cons]
  .cases h
def EV(id:Nat)(x:D):List (Nat×AV)->Option (List (Nat×AV))
 | []=>some []
 | (t,.own j)::l=>match EV id x l with
  | some r=>bif Nat.beq j id then some ((t,.d x)::r) else some ((t,.own j)::r)
  | none=>none
 | (t,.fn f caps)::l=>match EV id x l with
  | some r=>bif caps.contains id then some ((t,.d Cp)::r) else some ((t,.fn f caps)::r)
  | none=>none
 | (t,av)::l=>match EV id x l with
  | some r=>some ((t,av)::r)
  | none=>none
theorem Gk{id:Nat}{x:D}:∀{l r:List (Nat×AV)},EV id x l=some r->r=l.map λp=>(p.1,down id x p.2)
 | [],r,h=>by cases h;rfl
 | (t,av)::l,r,h=>by
  have key:∃r',EV id x l=some r'/\r=(t,down id x av)::r':=by
   cases av with
   | d y=>
    replace h:(match EV id x l with
     | some r=>some ((t,.d y)::r)
     | none=>none)=some r:=h
    split at h
    .rename_i r' h';cases h;exact ⟨r',h',rfl⟩
    .cases h
   | fn f caps=>
    replace h:(match EV id x l with
     | some r=>bif caps.contains id then some ((t,.d Cp)::r) else some ((t,.fn f caps)::r)
     | none=>none)=some r:=h
    split at h
    .rename_i r' h'
     cases hb:caps.contains id with
     | true=>rw [hb] at h;cases h;exact ⟨r',h',by simp only [down,hb];rfl⟩
     | false=>rw [hb] at h;cases h;exact ⟨r',h',by simp only [down,hb];rfl⟩
    .cases h
   | ptr i o=>
    replace h:(match EV id x l with
     | some r=>some ((t,.ptr i o)::r)
     | none=>none)=some r:=h
    split at h
    .rename_i r' h';cases h;exact ⟨r',h',rfl⟩
    .cases h
   | own j=>
    replace h:(match EV id x l with
     | some r=>bif Nat.beq j id then some ((t,.d x)::r) else some ((t,.own j)::r)
     | none=>none)=some r:=h
    split at h
    .rename_i r' h'
     cases hb:Nat.beq j id with
     | true=>rw [hb] at h;cases h;exact ⟨r',h',by simp [down,hb]⟩
     | false=>rw [hb] at h;cases h;exact ⟨r',h',by simp [down,hb]⟩
    .cases h
  obtain ⟨r',h1,rfl⟩:=key
  rw [Gk h1]
  rfl
def Er(id:Nat):List AV->Bool
 | []=>true
 | .own j::l=>bif Nat.beq j id then false else Er id l
 | .fn _ caps::l=>bif caps.contains id then false else Er id l
 | _::l=>Er id l
def Fh(id:Nat):List Ow->Bool
 | []=>true
 | .var _ c::l=>Er id c&&Fh id l
 | .pin c::l=>Er id (c.map (·.2))&&Fh id l
 | _::l=>Fh id l
theorem DP{id:Nat}{x:D}:∀{l:List AV},Er id l=true->l.map (down id x)=l
 | [],_=>rfl
 | .d y::l,h=>by rw [List.map_cons,DP (by exact h)];rfl
 | .ptr _ _::l,h=>by rw [List.map_cons,DP (by exact h)];rfl
 | .own j::l,h=>by
  replace h:(bif Nat.beq j id then false else Er id l)=true:=h
  cases hb:Nat.beq j id with
  | true=>rw [hb] at h;cases h
  | false=>rw [hb] at h;rw [List.map_cons,DP (by exact h)];simp only [down,hb];rfl
 | .fn f caps::l,h=>by
  replace h:(bif caps.contains id then false else Er id l)=true:=h
  cases hb:caps.contains id with
  | true=>rw [hb] at h;cases h
  | false=>rw [hb] at h;rw [List.map_cons,DP (by exact h)];simp only [down,hb];rfl
theorem Lz{id:Nat}{x:D}:∀{l:List (Value×AV)},Er id (l.map (·.2))=true->(l.map λp=>(p.1,down id x p.2))=l:=λ{l} h=>by
 have h1:=DP (x:=x) h
 apply List.ext_getElem?
 intro k
 have h2:=congrArg (λy=>y[k]?) h1
 simp only [List.getElem?_map] at h2 ⊢
 cases hk:l[k]? with
 | none=>rfl
 | some p=>
  rw [hk] at h2
  simp only [Option.map_some,Option.some.injEq] at h2 ⊢
  rw [h2]
theorem CK{id:Nat}{x:D}:∀{l:List Ow},Fh id l=true->l.map (Ow.mapA (down id x))=l
 | [],_=>rfl
 | .var T c::l,h=>by
  simp only [Fh,Bool.and_eq_true] at h
  rw [List.map_cons,CK h.2]
  simp only [Ow.mapA,DP h.1]
 | .pin c::l,h=>by
  simp only [Fh,Bool.and_eq_true] at h
  rw [List.map_cons,CK h.2]
  simp only [Ow.mapA,Lz h.1]
 | .dead::l,h=>by rw [List.map_cons,CK (by exact h)];rfl
 | .row _ _ _::l,h=>by rw [List.map_cons,CK (by exact h)];rfl
 | .obj _::l,h=>by rw [List.map_cons,CK (by exact h)];rfl
theorem GW{id:Nat}:∀l:List D,Er id (l.map .d)=true
 | []=>rfl
 | _::l=>GW (id:=id) l
def PlainHp(id:Nat):List Ow->Prop
 | []=>True
 | .var _ c::l=>Er id c=true/\PlainHp id l
 | .pin c::l=>Er id (c.map (·.2))=true/\PlainHp id l
 | _::l=>PlainHp id l
theorem PlainHp.ok{id:Nat}:∀{l:List Ow},PlainHp id l->Fh id l=true
 | [],_=>rfl
 | .var T c::l,h=>by simp only [Fh,Bool.and_eq_true];exact ⟨h.1,PlainHp.ok h.2⟩
 | .pin c::l,h=>by simp only [Fh,Bool.and_eq_true];exact ⟨h.1,PlainHp.ok h.2⟩
 | .dead::l,h=>PlainHp.ok (l:=l) h
 | .row _ _ _::l,h=>PlainHp.ok (l:=l) h
 | .obj _::l,h=>PlainHp.ok (l:=l) h
section
variable {id:Nat} {l:List Ow}
theorem PlainHp.nil:PlainHp id []:=trivial
theorem PlainHp.var{T:TypeId}{c:List D}(h:PlainHp id l):PlainHp id (.var T (c.map .d)::l):=⟨GW c,h⟩
theorem BY{T:TypeId}{c:List AV}(hc:Er id c=true)(h:PlainHp id l):PlainHp id (.var T c::l):=⟨hc,h⟩
theorem PlainHp.pin{c:List (Value×AV)}(hc:Er id (c.map (·.2))=true)(h:PlainHp id l):PlainHp id (.pin c::l):=⟨hc,h⟩
theorem PlainHp.obj{O:OD}(h:PlainHp id l):PlainHp id (.obj O::l):=h
theorem PlainHp.dead(h:PlainHp id l):PlainHp id (.dead::l):=h
theorem Ck{T sz:Nat}{r:List (List D)}(h:PlainHp id l):PlainHp id (.row T sz r::l):=h
end
def Pn:List (Nat×AV)->List Ow->Nat->List Oper->List HR->Option AS
 | fr,hp,0,_,_=>some ⟨fr,hp⟩
 | fr,hp,m+1,o::L,.av r::rs=>match o.dst with
  | some d=>Pn ((d,r)::fr) hp m L rs
  | none=>Pn fr hp m L rs
 | fr,hp,m+1,o::L,.new T cs::rs=>match o.dst,Fk hp,exO cs with
  | some d,some k,some c=>match Dt hp (.var T (c.map .d)) with
   | some hp'=>Pn ((d,.ptr k 0)::fr) hp' m L rs
   | none=>none
  | _,_,_=>none
 | _,_,_,_,_=>none
theorem KZ:∀{m:Nat} {fr:List (Nat×AV)} {hp:List Ow} {L:List Oper} {rs:List HR} {τ:AS},Pn fr hp m L rs=some τ->rs.length=m->τ=AS.aft ⟨fr,hp⟩ (L.take m) rs
 | 0,fr,hp,L,rs,τ,h,hl=>by
  obtain rfl:rs=[]:=List.eq_nil_of_length_eq_zero hl
  cases L<;>(cases h;rfl)
 | m+1,fr,hp,[],[],τ,h,hl=>by cases hl
 | m+1,fr,hp,[],r::rs,τ,h,hl=>by cases r<;>cases h
 | m+1,fr,hp,o::L,[],τ,h,hl=>by cases hl
 | m+1,fr,hp,o::L,.av r::rs,τ,h,hl=>by
  rw [List.take_succ_cons]
  have hl:rs.length=m:=by simpa using hl
  unfold Pn at h
  cases hd:o.dst with
  | some d=>
   rw [hd] at h
   have:=KZ h hl
   rw [this]
   simp only [AS.aft,AS.put,hd]
  | none=>
   rw [hd] at h
   have:=KZ h hl
   rw [this]
   simp only [AS.aft,AS.put,hd]
 | m+1,fr,hp,o::L,.new T cs::rs,τ,h,hl=>by
  rw [List.take_succ_cons]
  have hl:rs.length=m:=by simpa using hl
  unfold Pn at h
  split at h
  .rename_i d k c hd hk hc
   split at h
   .rename_i hp' hs
    have:=KZ h hl
    rw [this]
    have e1:=CI hs
    have e2:=Ea hk
    have e3:=LY hc
    subst e1;subst e2;subst e3
    simp only [AS.aft,AS.new,AS.put,hd]
    congr 3
    simp [Yh]
   .cases h
  .cases h
section
variable {P:Program} {s0:An} {n:Nat} {ops:Array Oper} {Q:Exit->AS->Prop} {rest:List Oper} {o:Oper} {fr:List (Nat×AV)} {hp:List Ow}
theorem A4F{d:Nat}{r:AV}(hdst:o.dst=some d)(hg:o.guard=none)(hs:Cj o.op=true)(hd:Nat.blt d n=true)(hq:Quiet P hp o (AS.arg ⟨fr,hp⟩) r)(h:AWl P s0 n ops Q rest ⟨(d,r)::fr,hp⟩):AWl P s0 n ops Q (o::rest) ⟨fr,hp⟩:=
 Yc hg hs (by rw [hdst];exact hd) hq (by rw [hdst];exact h)
theorem A3V{d:Nat}{r:AV}{j:Nat}{b:Bool}{e:Nat}(hg:o.guard=some (j,b))(hy:(ops[j]?).bind (·.dst)=some e)(hl:CE fr e=some (.d (ex (.bool b))))(hen:Nat.blt e n=true)(hdst:o.dst=some d)(hs:Cj o.op=true)(hd:Nat.blt d n=true)(hq:Quiet P hp o (AS.arg ⟨fr,hp⟩) r)(h:AWl P s0 n ops Q rest ⟨(d,r)::fr,hp⟩):AWl P s0 n ops Q (o::rest) ⟨fr,hp⟩:=
 Ug hg hy hl (by simpa [Nat.blt_eq] using hen) hs (by rw [hdst];exact hd) hq (by rw [hdst];exact h)
theorem A3U{d:Nat}{j:Nat}{b:Bool}{u:Value}{e:Nat}(hg:o.guard=some (j,b))(hy:(ops[j]?).bind (·.dst)=some e)(hl:CE fr e=some (.d (ex u)))(hne:isB u b=false)(hen:Nat.blt e n=true)(hdst:o.dst=some d)(hd:Nat.blt d n=true)(h:AWl P s0 n ops Q rest ⟨(d,.d (ex undef))::fr,hp⟩):AWl P s0 n ops Q (o::rest) ⟨fr,hp⟩:=
 Yb hg hy hl hne (by simpa [Nat.blt_eq] using hen) (by rw [hdst];exact hd) (by rw [hdst];exact h)
theorem A3Z{T:TypeId}{d:TypeDesc}{m b k t:Nat}{z:Value}{c:List D}{hp':List Ow}(hop:o.op = .alloc T)(hdst:o.dst=some t)(hg:o.guard=none)(ht:Tab P T d m b z)(hT:Nat.beq T 136=false)(h1:one1 z.cells.toList=true)(hd:Nat.blt t n=true)(hc:exO z.cells.toList=some c)(hk:Fk hp=some k)(hs:Dt hp (.var T (c.map .d))=some hp')(h:AWl P s0 n ops Q rest ⟨(t,.ptr k 0)::fr,hp'⟩):AWl P s0 n ops Q (o::rest) ⟨fr,hp⟩:=by
 refine Uj hop hg ht hT h1 (by rw [hdst];exact hd) ?_
 rw [LY hc] at hs
 rw [CI hs,Ea hk] at h
 simp only [AS.new,AS.put,hdst]
 exact h
theorem A3X{T:TypeId}{x:Operand}{ds:List D}{k t:Nat}{hp':List Ow}(hop:o.op = .box T x)(hdst:o.dst=some t)(hg:o.guard=none)(hx:AS.arg ⟨fr,hp⟩ x = .d (Bb ds))(hT:Nat.beq T 136=false)(hd:Nat.blt t n=true)(hk:Fk hp=some k)(hs:Dt hp (.var T (ds.map .d))=some hp')(h:AWl P s0 n ops Q rest ⟨(t,.ptr k 0)::fr,hp'⟩):AWl P s0 n ops Q (o::rest) ⟨fr,hp⟩:=by
 refine AWl.box hop hg hx (Nat.ne_of_beq_eq_false hT) (by rw [hdst];exact hd) ?_
 rw [CI hs,Ea hk] at h
 simp only [AS.new,AS.put,hdst]
 exact h
theorem A2v{T:TypeId}{x:Operand}{u:Value}{k t:Nat}{hp':List Ow}(hop:o.op = .box T x)(hdst:o.dst=some t)(hg:o.guard=none)(hx:AS.arg ⟨fr,hp⟩ x = .d (ex u))(h1:u.oneCell'=true)(hT:Nat.beq T 136=false)(hd:Nat.blt t n=true)(hk:Fk hp=some k)(hs:Dt hp (.var T ([ex u].map .d))=some hp')(h:AWl P s0 n ops Q rest ⟨(t,.ptr k 0)::fr,hp'⟩):AWl P s0 n ops Q (o::rest) ⟨fr,hp⟩:=by
 refine A0W hop hg hx h1 (Nat.ne_of_beq_eq_false hT) (by rw [hdst];exact hd) ?_
 rw [CI hs,Ea hk] at h
 simp only [AS.new,AS.put,hdst]
 exact h
theorem A2t{T T0:TypeId}{d:TypeDesc}{b id m:Nat}{z:Value}{x y:Operand}{cells:List AV}{ds:List D}{hp':List Ow}(hop:o.op = .store T x y)(hg:o.guard=none)(hds:o.dst=none)(hx:AS.arg ⟨fr,hp⟩ x = .ptr id 0)(hy:AS.arg ⟨fr,hp⟩ y = .d (Bb ds))(hh:hp[id]? = some (.var T0 cells))(ht:Tab P T d m b z)(hm:ds.length=m)(hoff:cells.length=m)(hs:Do hp id (.var T0 (ds.map .d))=some hp')
  (h:AWl P s0 n ops Q rest ⟨fr,hp'⟩):AWl P s0 n ops Q (o::rest) ⟨fr,hp⟩:=
 Ue hop hg hds hx hy hh ht hm hoff (by rw [Cs hs] at h;exact h)
theorem A0U{T T0:TypeId}{d:TypeDesc}{b id off:Nat}{z:Value}{x y:Operand}{cs cs':List D}{u:D}{hp':List Ow}(hop:o.op = .store T x y)(hg:o.guard=none)(hds:o.dst=none)(hx:AS.arg ⟨fr,hp⟩ x = .ptr id off)(hy:AS.arg ⟨fr,hp⟩ y = .d u)(hh:hp[id]? = some (.var T0 (cs.map .d)))(ht:Tab P T d 1 b z)(h1:One hp (.d u))(hc:Sz cs off [u]=some cs')(hs:Do hp id (.var T0 (cs'.map .d))=some hp')
  (h:AWl P s0 n ops Q rest ⟨fr,hp'⟩):AWl P s0 n ops Q (o::rest) ⟨fr,hp⟩:=by
 obtain ⟨e1,e2⟩:=Oy hc
 have hlt:off<cs.length:=e2
 refine Ku hop hg hds hx hy hh ht h1 hlt ?_
 rw [Cs hs,e1] at h
 have:Nf cs off [u]=cs.set off u:=by
  unfold Nf
  rw [List.set_eq_take_append_cons_drop,if_pos hlt]
  rfl
 rw [this] at h
 exact h
theorem AWl.app{x y:Operand}{t T T2 sz bytes id m b e:Nat}{z z':Value}{d:TypeDesc}{rows r2:List (List D)}{fr':List (Nat×AV)}{hp':List Ow}(hop:o.op = .call { callee:=.builtin .append,args:=#[x,y],argTypes:=#[t,t] })(hdst:o.dst=some e)(hg:o.guard=none)(hx:AS.arg ⟨fr,hp⟩ x = .own id)(hy:Ed hp (AS.arg ⟨fr,hp⟩ y)=some (slD T2 sz r2))(hh:hp[id]? = some (.row T sz rows))(ht:Tab P t (.slice T) m b z')(hT:Tab P T d sz bytes z)(hzs:z.cells.size=sz)(hd:Nat.blt e n=true)(hbytes:(rows.length+r2.length)*bytes<=140737488355328)(h63:rows.length+r2.length<=4611686018427387904)
  (hf:EV id (slD T sz rows) fr=some fr') (hpl:PlainHp id hp) (hs:Do hp id (.row T sz (rows++r2))=some hp') (h:AWl P s0 n ops Q rest ⟨(e,.own id)::fr',hp'⟩):AWl P s0 n ops Q (o::rest) ⟨fr,hp⟩:=by
 refine Ui hop hg hx hy hh ht hT hzs (by rw [hdst];exact hd) hbytes h63 ?_
 rw [Cs hs,Gk hf] at h
 simp only [AS.appd,AS.put,hdst,CK hpl.ok]
 exact h
theorem A3Y{t T m b sz bytes k e:Nat}{z z':Value}{d:TypeDesc}{hp':List Ow}(hop:o.op = .buildSlice t 0 #[])(hdst:o.dst=some e)(hg:o.guard=none)(ht:Tab P t (.slice T) m b z')(hT:Tab P T d sz bytes z)(hT32:Nat.beq T 136=false)(h0:Nat.blt 0 sz=true)(hd:Nat.blt e n=true)(hk:Fk hp=some k)(hs:Dt hp (.row T sz [])=some hp')(h:AWl P s0 n ops Q rest ⟨(e,.own k)::fr,hp'⟩):AWl P s0 n ops Q (o::rest) ⟨fr,hp⟩:=by
 refine Uh hop hg ht hT (Nat.ne_of_beq_eq_false hT32) (by simpa [Nat.blt_eq] using h0) (by rw [hdst];exact hd) ?_
 rw [CI hs,Ea hk] at h
 simp only [AS.new,AS.put,hdst]
 exact h
theorem AWp.dr{id:Nat}{L0:Array Oper}{L:List Oper}{Q0:Exit->AS->Prop}{τ:AS}(hm:DrawOk P s0 n id L0 L Q0 Q)(es:List (List (Nat×Nat)))(bs:List (List Nat))(rs:List HR)(hlen:(es.length==bs.length&&es.length==rs.length&&Nat.ble rs.length L.length)=true)(hok:CP L (Ej 0 es bs)=true)(hd:EU L es.length n=true)(steps:HSteps P ⟨fr,hp⟩ rs L es rs)
  (ha:Pn fr hp rs.length L rs=some τ) (tail:AWl P s0 n L.toArray Q (L.drop es.length) τ):AWp P s0 n (.region id L0 true) Q0 ⟨fr,hp⟩:=by
 refine A0T hm es bs rs hlen hok hd steps ?_
 simp only [Bool.and_eq_true,beq_iff_eq] at hlen
 rw [hlen.1.2,<-KZ ha rfl,<-hlen.1.2]
 exact tail
end
section
variable {P:Program} {hp:List Ow} {o:Oper} {arg:Operand->AV}
theorem TI{x:Operand}{t:TypeId}{d:TypeDesc}{n b T:Nat}{z:Value}{ds:List D}{r:D}(hop:o.op = .load t x)(hx:arg x = .d (Iw T ds))(ht:Tab P t d n b z)(hd:Eb d=false)(hr:atO 0 ds=some r):Quiet P hp o arg (.d r):=by
 obtain ⟨e1,e2⟩:=Pm hr
 rw [e1]
 exact Jy hop hx ht hd e2
theorem XG{x:Operand}{t:TypeId}{d:TypeDesc}{n b T id off:Nat}{z:Value}{ds r:List D}(hop:o.op = .load t x)(hx:arg x = .ptr id off)(hh:hp[id]? = some (.var T (ds.map .d)))(ht:Tab P t d n b z)(hd:Eb d=true)(hr:YA off n ds=some r):Quiet P hp o arg (.d (Bb r)):=by
 obtain ⟨e1,e2⟩:=Uy hr
 rw [e1]
 exact RN hop hx hh ht hd (Nat.ble_eq_true_of_le e2)
theorem TJ{x:Operand}{t:TypeId}{d:TypeDesc}{n b T id off:Nat}{z:Value}{ds:List D}{r:D}(hop:o.op = .load t x)(hx:arg x = .ptr id off)(hh:hp[id]? = some (.var T (ds.map .d)))(ht:Tab P t d n b z)(hd:Eb d=false)(hr:atO off ds=some r):Quiet P hp o arg (.d r):=by
 obtain ⟨e1,e2⟩:=Pm hr
 rw [e1]
 exact Jz hop hx hh ht hd e2
theorem Quiet.ext{x:Operand}{i:Nat}{ds:List D}{r:D}(hop:o.op = .extract x i)(hx:arg x = .d (BC ds))(hr:atO i ds=some r):Quiet P hp o arg (.d r):=by
 obtain ⟨e1,e2⟩:=Pm hr
 rw [e1]
 exact Quiet.extract hop hx e2
theorem TK{x:Operand}{S:TypeId}{fs:Array Field}{f n b n' b' id off:Nat}{fd:Field}{d:TypeDesc}{z z':Value}(hop:o.op = .fieldAddr S x f)(hx:arg x = .ptr id off)(hS:Tab P S (.struct fs) n b z)(hf:fs[f]? = some fd)(he:Tab P fd.type d n' b' z')(hn:Nat.beq n' 0=false):Quiet P hp o arg (.ptr id (off+fd.offset)):=
 PA hop hx hS hf he (Nat.ne_of_beq_eq_false hn)
end
def HX:BinOp->Int->Int->Prop
 | .eql,a,b=>a=b
 | .neq,a,b=>a≠b
 | .lss,a,b=>a<b
 | .leq,a,b=>a<=b
 | .gtr,a,b=>b<a
 | .geq,a,b=>b<=a
 | _,_,_=>False
def Nz:BinOp->Bool
 | .eql | .neq | .lss | .leq | .gtr | .geq=>true
 | _=>false
section
variable {P:Program} {hp:List Ow} {o:Oper} {arg:Operand->AV}
theorem TM{op:BinOp}{T U:TypeId}{x y:Operand}{k:IntKind}{a b:Int}(hop:o.op = .binOp op T x y U)(hb:Nz op=true)(hx:arg x = .d (ex (.int k a)))(hy:arg y = .d (ex (.int k b)))(hc:HX op a b):Quiet P hp o arg (.d (ex (.bool true))):=by
 refine Kd hop hx hy ?_
 cases op<;>first | (simp only [HX] at hc;simp [Rm,hc];done) | (simp only [HX] at hc;simp [Rm];omega) | exact absurd hb (by decide)
theorem TN{op:BinOp}{T U:TypeId}{x y:Operand}{k:IntKind}{a b:Int}(hop:o.op = .binOp op T x y U)(hb:Nz op=true)(hx:arg x = .d (ex (.int k a)))(hy:arg y = .d (ex (.int k b)))(hc:¬HX op a b):Quiet P hp o arg (.d (ex (.bool false))):=by
 refine Kd hop hx hy ?_
 cases op<;>first | (simp only [HX] at hc;simp [Rm,hc];done) | (simp only [HX] at hc;simp [Rm];omega) | exact absurd hb (by decide)
theorem Pz{α:Type}{x y:Operand}{t:TypeId}{e n b n' b' T sz:Nat}{d:TypeDesc}{z z':Value}{f:α->List D}{a:α}{l:List α}{κ:IntKind}(hop:o.op = .indexAddr t x y)(hx:Ed hp (arg x)=some (slD T sz ((a::l).map f)))(hy:arg y = .d (ex (.int κ 0)))(ht:Tab P t (.slice e) n b z)(he:Tab P e d n' b' z')(hsz:n'=sz):Quiet P hp o arg (.d (Iw T (f a))):=
 Quiet.index (P:=P) (hp:=hp) hop hx hy ht he hsz (by omega) (by simp)
theorem RO{α:Type}{x y:Operand}{t:TypeId}{e n b n' b' T sz i:Nat}{d:TypeDesc}{z z':Value}{f:α->List D}{l:List α}(hop:o.op = .slice t x (some y) none none)(hx:Ed hp (arg x)=some (slD T sz (l.map f)))(hy:arg y = .d (ex (.int .i64 (i:Nat))))(ht:Tab P t (.slice e) n b z)(he:Tab P e d n' b' z')(hsz:n'=sz)(hi:i<=l.length):Quiet P hp o arg (.d (slD T sz ((l.drop i).map f))):=by
 have h:=Quiet.slice (P:=P) (hp:=hp) (i:=(i:Nat)) (j:=((l.map f).length:Nat)) hop hx ht he hsz (.inl ⟨y,rfl,hy⟩) (.inr ⟨rfl,rfl⟩) (by omega) (by simp;omega) (by omega)
 have e1:((l.map f).take (((l.map f).length:Nat):Int).toNat).drop ((i:Nat):Int).toNat=(l.drop i).map f:=by
  rw [show (((l.map f).length:Nat):Int).toNat=(l.map f).length from rfl,List.take_length,List.map_drop]
  rfl
 rwa [e1] at h
theorem RI{α:Type}{x y:Operand}{t:TypeId}{e n b n' b' T sz i:Nat}{d:TypeDesc}{z z':Value}{f:α->List D}{l:List α}(hop:o.op = .slice t x none (some y) none)(hx:Ed hp (arg x)=some (slD T sz (l.map f)))(hy:arg y = .d (ex (.int .i64 (i:Nat))))(ht:Tab P t (.slice e) n b z)(he:Tab P e d n' b' z')(hsz:n'=sz)(hi:i<=l.length):Quiet P hp o arg (.d (slD T sz ((l.take i).map f))):=by
 have h:=Quiet.slice (P:=P) (hp:=hp) (i:=0) (j:=(i:Nat)) hop hx ht he hsz (.inr ⟨rfl,rfl⟩) (.inl ⟨y,rfl,hy⟩) (by omega) (by omega) (by simp;omega)
 have e1:((l.map f).take ((i:Nat):Int).toNat).drop ((0:Nat):Int).toNat=(l.take i).map f:=by
  show ((l.map f).take i).drop 0=_
  rw [List.drop_zero,List.map_take]
 exact e1▸h
end
theorem CJ{α:Type}(f:α->List D)(l:List α)(a:α):l.map f++[f a]=(l++[a]).map f:=by simp
theorem A3W{P:Program}{s0:An}{n:Nat}{ops:Array Oper}{Q:Exit->AS->Prop}{rest:List Oper}{o:Oper}{fr:List (Nat×AV)}{hp:List Ow}{d:Nat}(hdst:o.dst=some d)(hg:o.guard=none)(hs:Cj o.op=true)(hd:Nat.blt d n=true)(h:∃r,Quiet P hp o (AS.arg ⟨fr,hp⟩) r/\AWl P s0 n ops Q rest ⟨(d,r)::fr,hp⟩):AWl P s0 n ops Q (o::rest) ⟨fr,hp⟩:=by
 obtain ⟨r,h1,h2⟩:=h
 exact A4F hdst hg hs hd h1 h2
theorem A2u{P:Program}{s0:An}{n:Nat}{ops:Array Oper}{Q:Exit->AS->Prop}{rest:List Oper}{o:Oper}{fr:List (Nat×AV)}{hp:List Ow}{d:Nat}{j:Nat}{b:Bool}{e:Nat}(hg:o.guard=some (j,b))(hy:(ops[j]?).bind (·.dst)=some e)(hl:CE fr e=some (.d (ex (.bool b))))(hen:Nat.blt e n=true)(hdst:o.dst=some d)(hs:Cj o.op=true)(hd:Nat.blt d n=true)(h:∃r,Quiet P hp o (AS.arg ⟨fr,hp⟩) r/\AWl P s0 n ops Q rest ⟨(d,r)::fr,hp⟩):AWl P s0 n ops Q (o::rest) ⟨fr,hp⟩:=by
 obtain ⟨r,h1,h2⟩:=h
 exact A3V hg hy hl hen hdst hs hd h1 h2
def Kf:List HR->HR->Option (List HR)
 | [],x=>some [x]
 | o::l,x=>match Kf l x with
  | some r=>some (o::r)
  | none=>none
theorem PW:∀{l:List HR} {x:HR} {r:List HR},Kf l x=some r->r=l++[x]
 | [],x,r,h=>by cases h;rfl
 | o::l,x,r,h=>by
  unfold Kf at h
  split at h
  .rename_i r' h'
   cases h
   rw [PW h']
   rfl
  .cases h
def HS(P:Program)(σ:AS)(K:List HR->Prop):List HR->List Oper->List (List (Nat×Nat))->Prop
 | acc,_,[]=>K acc
 | acc,o::L,e::es=>∃r,HStep P σ acc e o r/\∃acc',Kf acc r=some acc'/\HS P σ K acc' L es
 | _,[],_::_=>False
def Jn:Nat->List Oper->List (List (Nat×Nat))->Bool
 | _,_,[]=>true
 | i,o::L,e::es=>e.all (λp=>Nat.blt p.2 i)&&(match o.guard with | some (j,_)=>Nat.blt j i | none=>true)&&Jn (i+1) L es
 | _,[],_::_=>false
theorem NK{σ:AS}{acc more:List HR}{es:List (Nat×Nat)}(h:∀p∈es,p.2<acc.length):KF σ (acc++more) es=KF σ acc es:=by
 funext x
 cases x with
 | tmp t=>
  show (match es.find? (λp=>p.1==t) with
   | some p=>match (acc++more)[p.2]? with
    | some h=>h.val
    | none=>.d Cp
   | none=>_)=(match es.find? (λp=>p.1==t) with
   | some p=>match acc[p.2]? with
    | some h=>h.val
    | none=>.d Cp
   | none=>_)
  cases hf:es.find? (λp=>p.1==t) with
  | none=>rfl
  | some p=>
   simp only
   rw [List.getElem?_append_left (h p (List.mem_of_find?_eq_some hf))]
 | const v=>rfl
 | global g=>rfl
 | func f=>rfl
theorem HStep.more{P:Program}{σ:AS}{acc more:List HR}{e:List (Nat×Nat)}{o:Oper}{r:HR}(h:HStep P σ acc e o r)(he:∀p∈e,p.2<acc.length)(hg:∀j b,o.guard=some (j,b)->j<acc.length):HStep P σ (acc++more) e o r:=by
 cases r with
 | av r=>
  rcases h with ⟨h1,h2⟩ | ⟨j,b,c,h1,h2,h3⟩
  .exact .inl ⟨h1,by rw [NK he];exact h2⟩
  .refine .inr ⟨j, b, c, h1, by rw [List.getElem?_append_left (hg j b h1)]; exact h2, ?_⟩
   rw [NK he]
   exact h3
 | new T cs=>exact h
theorem RZ{P:Program}{σ:AS}{K:List HR->Prop}:∀{es:List (List (Nat×Nat))} {L:List Oper} {acc:List HR},Jn acc.length L es=true->HS P σ K acc L es->∃more,more.length=es.length/\HSteps P σ (acc++more) L es more/\K (acc++more)
 | [],L,acc,_,h=>by
  refine ⟨[],rfl,HSteps.nil,?_⟩
  rw [List.append_nil]
  cases L<;>exact h
 | e::es,[],acc,he,h=>by cases he
 | e::es,o::L,acc,he,h=>by
  obtain ⟨r,h1,acc',h2,h3⟩:=h
  have e1:=PW h2
  subst e1
  simp only [Jn,Bool.and_eq_true] at he
  obtain ⟨⟨he1,he2⟩,he3⟩:=he
  obtain ⟨more,h4,h5,h6⟩:=RZ (acc:=acc++[r]) (by simpa using he3) h3
  rw [List.append_assoc,List.singleton_append] at h5 h6
  refine ⟨r::more,by simp [h4],⟨h1.more (λp hp=>?_) λj b hj=>?_,h5⟩,h6⟩
  .have:=List.all_eq_true.1 he1 p hp
   simpa [Nat.blt_eq] using this
  .rw [hj] at he2
   simpa [Nat.blt_eq] using he2
theorem Lf{P:Program}{s0:An}{n:Nat}{Q Q0:Exit->AS->Prop}{fr:List (Nat×AV)}{hp:List Ow}{id:Nat}{L0:Array Oper}{L:List Oper}(hm:DrawOk P s0 n id L0 L Q0 Q)(es:List (List (Nat×Nat)))(bs:List (List Nat))(hlen:(es.length==bs.length&&Nat.ble es.length L.length)=true)(hok:CP L (Ej 0 es bs)=true)(hd:EU L es.length n=true)(hlt:Jn 0 L es=true)
  (h:HS P ⟨fr,hp⟩ (λrs=>∃τ,Pn fr hp es.length L rs=some τ/\AWl P s0 n L.toArray Q (L.drop es.length) τ) [] L es):AWp P s0 n (.region id L0 true) Q0 ⟨fr,hp⟩:=by
 obtain ⟨rs,h1,h2,τ,h3,h4⟩:=RZ (acc:=[]) hlt h
 simp only [List.nil_append] at h2 h3
 simp only [Bool.and_eq_true,beq_iff_eq] at hlen
 exact AWp.dr hm es bs rs (by simp only [Bool.and_eq_true,beq_iff_eq];exact ⟨⟨hlen.1,h1.symm⟩,by rw [h1];exact hlen.2⟩) hok hd h2 (by rw [h1];exact h3) h4
section
variable {P:Program} {hp:List Ow} {arg:Operand->AV} {dd:Option Tmp} {ty:TypeId} {ps:String} {af:Array Edge} {gd:Option (Nat×Bool)}
theorem JB{α:Type}{x:Operand}{t:TypeId}{e n b T sz:Nat}{z:Value}{f:α->List D}{l:List α}(hx:Ed hp (arg x)=some (slD T sz (l.map f)))(ht:Tab P t (.slice e) n b z):Quiet P hp ⟨dd,.call { callee:=.builtin .len,args:=#[x],argTypes:=#[t] },ty,ps,af,gd⟩ arg (.d (ex (.int .i64 (l.length:Nat)))):=TH (o:=⟨dd,.call { callee:=.builtin .len,args:=#[x],argTypes:=#[t] },ty,ps,af,gd⟩) rfl hx ht
theorem XL{α:Type}{x y:Operand}{t:TypeId}{e n b n' b' T sz:Nat}{d:TypeDesc}{z z':Value}{f:α->List D}{a:α}{l:List α}{κ:IntKind}(hx:Ed hp (arg x)=some (slD T sz ((a::l).map f)))(hy:arg y = .d (ex (.int κ 0)))(ht:Tab P t (.slice e) n b z)(he:Tab P e d n' b' z')(hsz:n'=sz):Quiet P hp ⟨dd,.indexAddr t x y,ty,ps,af,gd⟩ arg (.d (Iw T (f a))):=Pz (o:=⟨dd,.indexAddr t x y,ty,ps,af,gd⟩) rfl hx hy ht he hsz
theorem A0C{α:Type}{x y:Operand}{t:TypeId}{e n b n' b' T sz i:Nat}{d:TypeDesc}{z z':Value}{f:α->List D}{l:List α}(hx:Ed hp (arg x)=some (slD T sz (l.map f)))(hy:arg y = .d (ex (.int .i64 (i:Nat))))(ht:Tab P t (.slice e) n b z)(he:Tab P e d n' b' z')(hsz:n'=sz)(hi:i<=l.length):Quiet P hp ⟨dd,.slice t x (some y) none none,ty,ps,af,gd⟩ arg (.d (slD T sz ((l.drop i).map f))):=RO (o:=⟨dd,.slice t x (some y) none none,ty,ps,af,gd⟩) rfl hx hy ht he hsz hi
theorem Mv{α:Type}{x y:Operand}{t:TypeId}{e n b n' b' T sz i:Nat}{d:TypeDesc}{z z':Value}{f:α->List D}{l:List α}(hx:Ed hp (arg x)=some (slD T sz (l.map f)))(hy:arg y = .d (ex (.int .i64 (i:Nat))))(ht:Tab P t (.slice e) n b z)(he:Tab P e d n' b' z')(hsz:n'=sz)(hi:i<=l.length):Quiet P hp ⟨dd,.slice t x none (some y) none,ty,ps,af,gd⟩ arg (.d (slD T sz ((l.take i).map f))):=RI (o:=⟨dd,.slice t x none (some y) none,ty,ps,af,gd⟩) rfl hx hy ht he hsz hi
theorem HO{α:Type}[Inhabited α]{x y:Operand}{t:TypeId}{e n b n' b' T sz k:Nat}{d:TypeDesc}{z z':Value}{f:α->List D}{l:List α}{κ:IntKind}(hx:Ed hp (arg x)=some (slD T sz (l.map f)))(hy:arg y = .d (ex (.int κ (k:Nat))))(ht:Tab P t (.slice e) n b z)(he:Tab P e d n' b' z')(hsz:n'=sz)(hk:k<l.length):Quiet P hp ⟨dd,.indexAddr t x y,ty,ps,af,gd⟩ arg (.d (Iw T (f (l.getD k default)))):=Px (o:=⟨dd,.indexAddr t x y,ty,ps,af,gd⟩) rfl hx hy ht he hsz hk
theorem A3I{T U:TypeId}{x y:Operand}{a b:Int}(hx:arg x = .d (ex (.int .i64 a)))(hy:arg y = .d (ex (.int .i64 b)))(h1:-9223372036854775808<=a+b)(h2:a+b<=9223372036854775807):Quiet P hp ⟨dd,.binOp .add T x y U,ty,ps,af,gd⟩ arg (.d (ex (.int .i64 (a+b)))):=Quiet.add (o:=⟨dd,.binOp .add T x y U,ty,ps,af,gd⟩) rfl hx hy h1 h2
theorem A3x{T U:TypeId}{x y:Operand}{a b:Int}(hx:arg x = .d (ex (.int .i64 a)))(hy:arg y = .d (ex (.int .i64 b)))(h1:-9223372036854775808<=a-b)(h2:a-b<=9223372036854775807):Quiet P hp ⟨dd,.binOp .sub T x y U,ty,ps,af,gd⟩ arg (.d (ex (.int .i64 (a-b)))):=Quiet.sub (o:=⟨dd,.binOp .sub T x y U,ty,ps,af,gd⟩) rfl hx hy h1 h2
theorem TP{T U:TypeId}{x y:Operand}{a b:Int}(hx:arg x = .d (ex (.int .i64 a)))(hy:arg y = .d (ex (.int .i64 b)))(h1:-9223372036854775808<=a*b)(h2:a*b<=9223372036854775807):Quiet P hp ⟨dd,.binOp .mul T x y U,ty,ps,af,gd⟩ arg (.d (ex (.int .i64 (a*b)))):=Quiet.mul (o:=⟨dd,.binOp .mul T x y U,ty,ps,af,gd⟩) rfl hx hy h1 h2
theorem A27{T U:TypeId}{x y:Operand}{a:Nat}(hx:arg x = .d (ex (.int .i64 (a:Nat))))(hy:arg y = .d (ex (.int .i64 1)))(h1:(a:Int)<9223372036854775807):Quiet P hp ⟨dd,.binOp .add T x y U,ty,ps,af,gd⟩ arg (.d (ex (.int .i64 ((a+1:Nat):Int)))):=Quiet.succ (o:=⟨dd,.binOp .add T x y U,ty,ps,af,gd⟩) rfl hx hy h1
theorem A2h{T U:TypeId}{x y:Operand}{k:IntKind}{a b c:Int}(hx:arg x = .d (ex (.int k a)))(hy:arg y = .d (ex (.int k b)))(hc:k.wrap (a+b)=c):Quiet P hp ⟨dd,.binOp .add T x y U,ty,ps,af,gd⟩ arg (.d (ex (.int k c))):=TO (o:=⟨dd,.binOp .add T x y U,ty,ps,af,gd⟩) rfl hx hy hc
theorem A3z{T U:TypeId}{x y:Operand}{a b:Int}(hx:arg x = .d (ex (.int .i64 a)))(hy:arg y = .d (ex (.int .i64 b)))(h0:0<=a)(h1:a<=9223372036854775807)(hb:0<b):Quiet P hp ⟨dd,.binOp .quo T x y U,ty,ps,af,gd⟩ arg (.d (ex (.int .i64 (a/b)))):=Quiet.quo (o:=⟨dd,.binOp .quo T x y U,ty,ps,af,gd⟩) rfl hx hy h0 h1 hb
theorem A3y{T U:TypeId}{x y:Operand}{k:IntKind}{a b:Int}(hx:arg x = .d (ex (.int k a)))(hy:arg y = .d (ex (.int k b)))(h0:0<=a)(hb:0<b):Quiet P hp ⟨dd,.binOp .rem T x y U,ty,ps,af,gd⟩ arg (.d (ex (.int k (a%b)))):=Quiet.rem (o:=⟨dd,.binOp .rem T x y U,ty,ps,af,gd⟩) rfl hx hy h0 hb
theorem A3H{op:BinOp}{T U:TypeId}{x y:Operand}{k:IntKind}{a b:Int}{c:Bool}(hx:arg x = .d (ex (.int k a)))(hy:arg y = .d (ex (.int k b)))(hc:Rm op a b=some c):Quiet P hp ⟨dd,.binOp op T x y U,ty,ps,af,gd⟩ arg (.d (ex (.bool c))):=Kd (o:=⟨dd,.binOp op T x y U,ty,ps,af,gd⟩) rfl hx hy hc
theorem A2d{op:BinOp}{T U:TypeId}{x y:Operand}{k:IntKind}{a b:Int}(hb:Nz op=true)(hx:arg x = .d (ex (.int k a)))(hy:arg y = .d (ex (.int k b)))(hc:HX op a b):Quiet P hp ⟨dd,.binOp op T x y U,ty,ps,af,gd⟩ arg (.d (ex (.bool true))):=TM (o:=⟨dd,.binOp op T x y U,ty,ps,af,gd⟩) rfl hb hx hy hc
theorem A2e{op:BinOp}{T U:TypeId}{x y:Operand}{k:IntKind}{a b:Int}(hb:Nz op=true)(hx:arg x = .d (ex (.int k a)))(hy:arg y = .d (ex (.int k b)))(hc:¬HX op a b):Quiet P hp ⟨dd,.binOp op T x y U,ty,ps,af,gd⟩ arg (.d (ex (.bool false))):=TN (o:=⟨dd,.binOp op T x y U,ty,ps,af,gd⟩) rfl hb hx hy hc
theorem A3A{T:TypeId}{x:Operand}{a:Bool}(hx:arg x = .d (ex (.bool a))):Quiet P hp ⟨dd,.unOp .not T x,ty,ps,af,gd⟩ arg (.d (ex (.bool (!a)))):=Quiet.not (o:=⟨dd,.unOp .not T x,ty,ps,af,gd⟩) rfl hx
theorem A0w{c x y:Operand}{r:AV}(hx:arg x=r)(hc:arg c = .d (ex (.bool true))):Quiet P hp ⟨dd,.pick c x y,ty,ps,af,gd⟩ arg r:=RJ (o:=⟨dd,.pick c x y,ty,ps,af,gd⟩) rfl hx hc
theorem A0x{c x y:Operand}{r:AV}(hy:arg y=r)(hc:arg c = .d (ex (.bool false))):Quiet P hp ⟨dd,.pick c x y,ty,ps,af,gd⟩ arg r:=RK (o:=⟨dd,.pick c x y,ty,ps,af,gd⟩) rfl hy hc
theorem PF{S T:TypeId}{x:Operand}{k k':IntKind}{a:Int}{d:TypeDesc}{n b n' b':Nat}{z z':Value}(hx:arg x = .d (ex (.int k a)))(hS:Tab P S d n b z)(hT:Tab P T (.int k') n' b' z'):Quiet P hp ⟨dd,.convert S T x,ty,ps,af,gd⟩ arg (.d (ex (.int k' (k'.wrap a)))):=TL (o:=⟨dd,.convert S T x,ty,ps,af,gd⟩) rfl hx hS hT
theorem A2c{x:Operand}{S:TypeId}{fs:Array Field}{f n b n' b' id off:Nat}{fd:Field}{d:TypeDesc}{z z':Value}(hx:arg x = .ptr id off)(hS:Tab P S (.struct fs) n b z)(hf:fs[f]? = some fd)(he:Tab P fd.type d n' b' z')(hn:Nat.beq n' 0=false):Quiet P hp ⟨dd,.fieldAddr S x f,ty,ps,af,gd⟩ arg (.ptr id (off+fd.offset)):=TK (o:=⟨dd,.fieldAddr S x f,ty,ps,af,gd⟩) rfl hx hS hf he hn
theorem A3D{x:Operand}{t:TypeId}{d:TypeDesc}{n b T id off:Nat}{z:Value}{ds r:List D}(hx:arg x = .ptr id off)(hh:hp[id]? = some (.var T (ds.map .d)))(ht:Tab P t d n b z)(hd:Eb d=true)(hr:YA off n ds=some r):Quiet P hp ⟨dd,.load t x,ty,ps,af,gd⟩ arg (.d (Bb r)):=XG (o:=⟨dd,.load t x,ty,ps,af,gd⟩) rfl hx hh ht hd hr
theorem VO{x:Operand}{t:TypeId}{d:TypeDesc}{n b T id off:Nat}{z:Value}{ds:List D}{r:D}(hx:arg x = .ptr id off)(hh:hp[id]? = some (.var T (ds.map .d)))(ht:Tab P t d n b z)(hd:Eb d=false)(hr:atO off ds=some r):Quiet P hp ⟨dd,.load t x,ty,ps,af,gd⟩ arg (.d r):=TJ (o:=⟨dd,.load t x,ty,ps,af,gd⟩) rfl hx hh ht hd hr
theorem Cy{x:Operand}{t:TypeId}{d:TypeDesc}{n b T id off:Nat}{z:Value}{cells:List AV}{r:AV}(hx:arg x = .ptr id off)(hh:hp[id]? = some (.var T cells))(ht:Tab P t d n b z)(hd:Eb d=false)(hc:cells[off]? = some r):Quiet P hp ⟨dd,.load t x,ty,ps,af,gd⟩ arg r:=Jx (o:=⟨dd,.load t x,ty,ps,af,gd⟩) rfl hx hh ht hd hc
theorem XJ{x:Operand}{t:TypeId}{d:TypeDesc}{n b T:Nat}{z:Value}{ds:List D}(hx:arg x = .d (Iw T ds))(ht:Tab P t d n b z)(hd:Eb d=true)(hn:ds.length=n):Quiet P hp ⟨dd,.load t x,ty,ps,af,gd⟩ arg (.d (Bb ds)):=Pv (o:=⟨dd,.load t x,ty,ps,af,gd⟩) rfl hx ht hd hn
theorem A2b{x:Operand}{t:TypeId}{d:TypeDesc}{n b T:Nat}{z:Value}{ds:List D}{r:D}(hx:arg x = .d (Iw T ds))(ht:Tab P t d n b z)(hd:Eb d=false)(hr:atO 0 ds=some r):Quiet P hp ⟨dd,.load t x,ty,ps,af,gd⟩ arg (.d r):=TI (o:=⟨dd,.load t x,ty,ps,af,gd⟩) rfl hx ht hd hr
theorem A3G{x:Operand}{i:Nat}{ds:List D}{r:D}(hx:arg x = .d (BC ds))(hr:atO i ds=some r):Quiet P hp ⟨dd,.extract x i,ty,ps,af,gd⟩ arg (.d r):=Quiet.ext (o:=⟨dd,.extract x i,ty,ps,af,gd⟩) rfl hx hr
theorem A0E{t:TypeId}{fs:Array Field}{n b:Nat}{z:Value}{parts:List (Nat×Operand)}{pl:List (Nat×Nat)}{r:List (Nat×List D)}{ds:List D}(ht:Tab P t (.struct fs) n b z)(hpl:FieldsT P fs.toList pl)(h1:one1 z.cells.toList=true)(hr:PartsA hp arg parts r)(hf:EC (λi=>pl[i]?) (Pd z.cells.toList) r=some ds):Quiet P hp ⟨dd,.build t parts.toArray,ty,ps,af,gd⟩ arg (.d (Bb ds)):=Quiet.build (o:=⟨dd,.build t parts.toArray,ty,ps,af,gd⟩) rfl ht hpl h1 hr hf
theorem RU{t e:TypeId}{len n b n' b':Nat}{z z':Value}{d:TypeDesc}{parts:List (Nat×Operand)}{r:List (Nat×List D)}{ds:List D}(ht:Tab P t (.array len e) n b z)(he:Tab P e d n' b' z')(h1:one1 z.cells.toList=true)(hr:PartsA hp arg parts r)(hf:EC (λi=>some (i*n',n')) (Pd z.cells.toList) r=some ds):Quiet P hp ⟨dd,.build t parts.toArray,ty,ps,af,gd⟩ arg (.d (Bb ds)):=Ms (o:=⟨dd,.build t parts.toArray,ty,ps,af,gd⟩) rfl ht he h1 hr hf
theorem Ie{t e:TypeId}{len n b n' b':Nat}{z z':Value}{d:TypeDesc}{parts:List (Nat×Operand)}{r:List (Nat×List D)}{ds:List D}(ht:Tab P t (.slice e) n b z)(he:Tab P e d n' b' z')(hlen:0<len)(hn:0<n')(hz:z'.cells.size=n')(h24:len*n'<=16777216)(h1:one1 z'.cells.toList=true)(hr:PartsA hp arg parts r)(hf:EC (λi=>some (i*n',n')) (List.replicate (len*n') Cp) r=some ds):Quiet P hp ⟨dd,.buildSlice t len parts.toArray,ty,ps,af,gd⟩ arg (.d (slD e n' (Eh n' len ds))):=Quiet.buildSlice (o:=⟨dd,.buildSlice t len parts.toArray,ty,ps,af,gd⟩) rfl ht he hlen hn hz h24 h1 hr hf
theorem A4t{x:Operand}{t:TypeId}{e n b n' b' T sz:Nat}{d:TypeDesc}{z z':Value}{lo hi:Option Operand}{rows:List (List D)}{i j:Int}(hx:Ed hp (arg x)=some (slD T sz rows))(ht:Tab P t (.slice e) n b z)(he:Tab P e d n' b' z')(hsz:n'=sz)(hlo:(∃y,lo=some y/\arg y = .d (ex (.int .i64 i)))\/(lo=none/\i=0))(hhi:(∃y,hi=some y/\arg y = .d (ex (.int .i64 j)))\/(hi=none/\j=rows.length))(h0:0<=i)(hij:i<=j)(hj:j<=rows.length):Quiet P hp ⟨dd,.slice t x lo hi none,ty,ps,af,gd⟩ arg (.d (slD T sz ((rows.take j.toNat).drop i.toNat))):=Quiet.slice (o:=⟨dd,.slice t x lo hi none,ty,ps,af,gd⟩) rfl hx ht he hsz hlo hhi h0 hij hj
theorem A3C{x y:Operand}{tys:Array TypeId}{k:IntKind}{a b:Int}(hx:arg x = .d (ex (.int k a)))(hy:arg y = .d (ex (.int k b))):Quiet P hp ⟨dd,.call { callee:=.builtin .max,args:=#[x,y],argTypes:=tys },ty,ps,af,gd⟩ arg (.d (ex (.int k (Max.max a b)))):=Quiet.max (o:=⟨dd,.call { callee:=.builtin .max,args:=#[x,y],argTypes:=tys },ty,ps,af,gd⟩) rfl hx hy
theorem A3B{x y:Operand}{tys:Array TypeId}{k:IntKind}{a b:Int}(hx:arg x = .d (ex (.int k a)))(hy:arg y = .d (ex (.int k b))):Quiet P hp ⟨dd,.call { callee:=.builtin .min,args:=#[x,y],argTypes:=tys },ty,ps,af,gd⟩ arg (.d (ex (.int k (Min.min a b)))):=Quiet.min (o:=⟨dd,.call { callee:=.builtin .min,args:=#[x,y],argTypes:=tys },ty,ps,af,gd⟩) rfl hx hy
theorem A2f{f:Operand}{args:List Operand}{tys:Array TypeId}{fid:FuncId}{ds:List D}{r:D}(hf:arg f = .d (ex (.func (.func fid) #[] #[])))(hc:Abs P fid ds r)(ha:ArgsLe hp arg args ds):Quiet P hp ⟨dd,.call { callee:=.value f,args:=args.toArray,argTypes:=tys },ty,ps,af,gd⟩ arg (.d r):=Quiet.call (o:=⟨dd,.call { callee:=.value f,args:=args.toArray,argTypes:=tys },ty,ps,af,gd⟩) rfl hf hc ha
theorem PG{op:BinOp}{T U:TypeId}{x y:Operand}{a b v:Value}(hx:arg x = .d (ex a))(hy:arg y = .d (ex b))(hr:∀w,(do eqGuard op T x y a b;binOp op T a b:Sem Value).run P w = .ok v w):Quiet P hp ⟨dd,.binOp op T x y U,ty,ps,af,gd⟩ arg (.d (ex v)):=DA (o:=⟨dd,.binOp op T x y U,ty,ps,af,gd⟩) rfl hx hy hr
theorem JA{x:Operand}{r:AV}(hx:arg x=r):Quiet P hp ⟨dd,.move x,ty,ps,af,gd⟩ arg r:=Quiet.move (.inl rfl) hx
theorem HQ{x:Operand}{r:AV}(hx:arg x=r):Quiet P hp ⟨dd,.assign x,ty,ps,af,gd⟩ arg r:=Quiet.move (.inr rfl) hx
end
section
variable {P:Program} {s0:An} {n:Nat} {ops:Array Oper} {Q:Exit->AS->Prop} {rest:List Oper} {fr:List (Nat×AV)} {hp:List Ow} {ty:TypeId} {ps:String} {af:Array Edge}
theorem MD{T:TypeId}{d:TypeDesc}{m b k t:Nat}{z:Value}{c:List D}{hp':List Ow}(ht:Tab P T d m b z)(hT:Nat.beq T 136=false)(h1:one1 z.cells.toList=true)(hd:Nat.blt t n=true)(hc:exO z.cells.toList=some c)(hk:Fk hp=some k)(hs:Dt hp (.var T (c.map .d))=some hp')(h:AWl P s0 n ops Q rest ⟨(t,.ptr k 0)::fr,hp'⟩):AWl P s0 n ops Q (⟨some t,.alloc T,ty,ps,af,none⟩::rest) ⟨fr,hp⟩:=A3Z (o:=⟨some t,.alloc T,ty,ps,af,none⟩) rfl rfl rfl ht hT h1 hd hc hk hs h
theorem A3T{T:TypeId}{x:Operand}{ds:List D}{k t:Nat}{hp':List Ow}(hx:AS.arg ⟨fr,hp⟩ x = .d (Bb ds))(hT:Nat.beq T 136=false)(hd:Nat.blt t n=true)(hk:Fk hp=some k)(hs:Dt hp (.var T (ds.map .d))=some hp')(h:AWl P s0 n ops Q rest ⟨(t,.ptr k 0)::fr,hp'⟩):AWl P s0 n ops Q (⟨some t,.box T x,ty,ps,af,none⟩::rest) ⟨fr,hp⟩:=A3X (o:=⟨some t,.box T x,ty,ps,af,none⟩) rfl rfl rfl hx hT hd hk hs h
theorem VX{T:TypeId}{x:Operand}{u:Value}{k t:Nat}{hp':List Ow}(hx:AS.arg ⟨fr,hp⟩ x = .d (ex u))(h1:u.oneCell'=true)(hT:Nat.beq T 136=false)(hd:Nat.blt t n=true)(hk:Fk hp=some k)(hs:Dt hp (.var T ([ex u].map .d))=some hp')(h:AWl P s0 n ops Q rest ⟨(t,.ptr k 0)::fr,hp'⟩):AWl P s0 n ops Q (⟨some t,.box T x,ty,ps,af,none⟩::rest) ⟨fr,hp⟩:=A2v (o:=⟨some t,.box T x,ty,ps,af,none⟩) rfl rfl rfl hx h1 hT hd hk hs h
theorem A2l{T T0:TypeId}{d:TypeDesc}{b id m:Nat}{z:Value}{x y:Operand}{cells:List AV}{ds:List D}{hp':List Ow}(hx:AS.arg ⟨fr,hp⟩ x = .ptr id 0)(hy:AS.arg ⟨fr,hp⟩ y = .d (Bb ds))(hh:hp[id]? = some (.var T0 cells))(ht:Tab P T d m b z)(hm:ds.length=m)(hoff:cells.length=m)(hs:Do hp id (.var T0 (ds.map .d))=some hp')(h:AWl P s0 n ops Q rest ⟨fr,hp'⟩):AWl P s0 n ops Q (⟨none,.store T x y,ty,ps,af,none⟩::rest) ⟨fr,hp⟩:=A2t (o:=⟨none,.store T x y,ty,ps,af,none⟩) rfl rfl rfl hx hy hh ht hm hoff hs h
theorem JF{T T0:TypeId}{d:TypeDesc}{b id off:Nat}{z:Value}{x y:Operand}{cs cs':List D}{u:D}{hp':List Ow}(hx:AS.arg ⟨fr,hp⟩ x = .ptr id off)(hy:AS.arg ⟨fr,hp⟩ y = .d u)(hh:hp[id]? = some (.var T0 (cs.map .d)))(ht:Tab P T d 1 b z)(h1:One hp (.d u))(hc:Sz cs off [u]=some cs')(hs:Do hp id (.var T0 (cs'.map .d))=some hp')(h:AWl P s0 n ops Q rest ⟨fr,hp'⟩):AWl P s0 n ops Q (⟨none,.store T x y,ty,ps,af,none⟩::rest) ⟨fr,hp⟩:=A0U (o:=⟨none,.store T x y,ty,ps,af,none⟩) rfl rfl rfl hx hy hh ht h1 hc hs h
theorem GE{x y:Operand}{t T T2 sz bytes id m b e:Nat}{z z':Value}{d:TypeDesc}{rows r2:List (List D)}{fr':List (Nat×AV)}{hp':List Ow}(hx:AS.arg ⟨fr,hp⟩ x = .own id)(hy:Ed hp (AS.arg ⟨fr,hp⟩ y)=some (slD T2 sz r2))(hh:hp[id]? = some (.row T sz rows))(ht:Tab P t (.slice T) m b z')(hT:Tab P T d sz bytes z)(hzs:z.cells.size=sz)(hd:Nat.blt e n=true)(hbytes:(rows.length+r2.length)*bytes<=140737488355328)(h63:rows.length+r2.length<=4611686018427387904)(hf:EV id (slD T sz rows) fr=some fr')(hpl:PlainHp id hp)(hs:Do hp id (.row T sz (rows++r2))=some hp')(h:AWl P s0 n ops Q rest ⟨(e,.own id)::fr',hp'⟩):AWl P s0 n ops Q (⟨some e,.call { callee:=.builtin .append,args:=#[x,y],argTypes:=#[t,t] },ty,ps,af,none⟩::rest) ⟨fr,hp⟩:=AWl.app (o:=⟨some e,.call { callee:=.builtin .append,args:=#[x,y],argTypes:=#[t,t] },ty,ps,af,none⟩) rfl rfl rfl hx hy hh ht hT hzs hd hbytes h63 hf hpl hs h
theorem CW{t T m b sz bytes k e:Nat}{z z':Value}{d:TypeDesc}{hp':List Ow}(ht:Tab P t (.slice T) m b z')(hT:Tab P T d sz bytes z)(hT32:Nat.beq T 136=false)(h0:Nat.blt 0 sz=true)(hd:Nat.blt e n=true)(hk:Fk hp=some k)(hs:Dt hp (.row T sz [])=some hp')(h:AWl P s0 n ops Q rest ⟨(e,.own k)::fr,hp'⟩):AWl P s0 n ops Q (⟨some e,.buildSlice t 0 #[],ty,ps,af,none⟩::rest) ⟨fr,hp⟩:=A3Y (o:=⟨some e,.buildSlice t 0 #[],ty,ps,af,none⟩) rfl rfl rfl ht hT hT32 h0 hd hk hs h
theorem CD{d:Nat}{op:Op}(hs:Cj op=true)(hd:Nat.blt d n=true)(h:∃r,Quiet P hp ⟨some d,op,ty,ps,af,none⟩ (AS.arg ⟨fr,hp⟩) r/\AWl P s0 n ops Q rest ⟨(d,r)::fr,hp⟩):AWl P s0 n ops Q (⟨some d,op,ty,ps,af,none⟩::rest) ⟨fr,hp⟩:=A3W rfl rfl hs hd h
theorem A3S{d:Nat}{op:Op}{j:Nat}{b:Bool}{e:Nat}(hy:(ops[j]?).bind (·.dst)=some e)(hl:CE fr e=some (.d (ex (.bool b))))(hen:Nat.blt e n=true)(hs:Cj op=true)(hd:Nat.blt d n=true)(h:∃r,Quiet P hp ⟨some d,op,ty,ps,af,some (j,b)⟩ (AS.arg ⟨fr,hp⟩) r/\AWl P s0 n ops Q rest ⟨(d,r)::fr,hp⟩):AWl P s0 n ops Q (⟨some d,op,ty,ps,af,some (j,b)⟩::rest) ⟨fr,hp⟩:=A2u rfl hy hl hen rfl hs hd h
theorem A3R{d:Nat}{op:Op}{j:Nat}{b:Bool}{u:Value}{e:Nat}(hy:(ops[j]?).bind (·.dst)=some e)(hl:CE fr e=some (.d (ex u)))(hne:isB u b=false)(hen:Nat.blt e n=true)(hd:Nat.blt d n=true)(h:AWl P s0 n ops Q rest ⟨(d,.d (ex undef))::fr,hp⟩):AWl P s0 n ops Q (⟨some d,op,ty,ps,af,some (j,b)⟩::rest) ⟨fr,hp⟩:=A3U rfl hy hl hne hen rfl hd h
end
def plO:List Field->Option (List (Nat×Nat))
 | []=>some []
 | f::l=>match MY Up f.type with
  | some p=>match plO l with
   | some r=>some ((f.offset,p.n)::r)
   | none=>none
  | none=>none
theorem YT:∀{l:List Field} {r:List (Nat×Nat)},plO l=some r->FieldsT Tryz.prog l r
 | [],r,h=>by cases h;exact FieldsT.nil
 | f::l,r,h=>by
  unfold plO at h
  cases ht:MY Up f.type with
  | none=>rw [ht] at h;cases h
  | some p=>
   rw [ht] at h
   simp only at h
   cases hr:plO l with
   | none=>rw [hr] at h;cases h
   | some r'=>
    rw [hr] at h
    cases h
    obtain ⟨h1,h2⟩:=Lk Us ht
    rw [h1] at h2
    exact FieldsT.cons h2 (YT hr)
def PartOk(hp:List Ow)(av:AV)(es:List D):Prop:=av = .d (Bb es)\/∃y,Ed hp av=some y/\One hp av/\es=[y]
theorem AW{hp:List Ow}{av:AV}{es:List D}(h:av = .d (Bb es)):PartOk hp av es:=.inl h
theorem TR{hp:List Ow}{av:AV}{y:D}(h:Ed hp av=some y)(h1:One hp av):PartOk hp av [y]:=.inr ⟨y,h,h1,rfl⟩
def UB:List (Nat×List D)->Nat×List D->Option (List (Nat×List D))
 | [],x=>some [x]
 | o::l,x=>match UB l x with
  | some r=>some (o::r)
  | none=>none
theorem PV:∀{l:List (Nat×List D)} {x:Nat×List D} {r:List (Nat×List D)},UB l x=some r->r=l++[x]
 | [],x,r,h=>by cases h;rfl
 | o::l,x,r,h=>by
  unfold UB at h
  split at h
  .rename_i r' h'
   cases h
   rw [PV h']
   rfl
  .cases h
def PC(hp:List Ow)(arg:Operand->AV)(K:List (Nat×List D)->Prop):List (Nat×List D)->List (Nat×Operand)->Prop
 | acc,[]=>K acc
 | acc,(i,x)::l=>∃es,PartOk hp (arg x) es/\∃acc',UB acc (i,es)=some acc'/\PC hp arg K acc' l
theorem JC{hp:List Ow}{arg:Operand->AV}{K:List (Nat×List D)->Prop}:∀{l:List (Nat×Operand)} {acc:List (Nat×List D)},PC hp arg K acc l->∃r,PartsA hp arg l r/\K (acc++r)
 | [],acc,h=>⟨[],PartsA.nil,by rw [List.append_nil];exact h⟩
 | (i,x)::l,acc,⟨es,h1,acc',h2,h3⟩=>by
  have e:=PV h2
  subst e
  obtain ⟨r,h4,h5⟩:=JC h3
  rw [List.append_assoc,List.singleton_append] at h5
  exact ⟨(i,es)::r,⟨rfl,h1,h4⟩,h5⟩
def NE(place:Nat->Option (Nat×Nat)):List D->List (Nat×List D)->Option (List D)
 | ds,[]=>some ds
 | ds,(i,es)::r=>match place i with
  | some (off,size)=>bif Nat.beq es.length size then match Sz ds off es with
   | some ds'=>NE place ds' r
   | none=>none else none
  | none=>none
theorem Jl{place:Nat->Option (Nat×Nat)}:∀{r:List (Nat×List D)} {ds x:List D},NE place ds r=some x->EC place ds r=some x
 | [],ds,x,h=>h
 | (i,es)::r,ds,x,h=>by
  unfold NE at h
  unfold EC
  cases hp:place i with
  | none=>rw [hp] at h;cases h
  | some q=>
   obtain ⟨off,size⟩:=q
   rw [hp] at h
   simp only at h ⊢
   cases hb:Nat.beq es.length size with
   | false=>rw [hb] at h;cases h
   | true=>
    rw [hb] at h
    simp only [cond_true] at h
    cases hs:Sz ds off es with
    | none=>rw [hs] at h;cases h
    | some ds'=>
     rw [hs] at h
     obtain ⟨e1,e2⟩:=Oy hs
     have e3:=Nat.eq_of_beq_eq_true hb
     have e4:Nat.ble (off+size) ds.length=true:=Nat.ble_eq_true_of_le (by omega)
     rw [e4,<-e1]
     exact Jl h
section
variable {P:Program} {hp:List Ow} {arg:Operand->AV} {dd:Option Tmp} {ty:TypeId} {ps:String} {af:Array Edge} {gd:Option (Nat×Bool)}
theorem EZ{t:TypeId}{fs:Array Field}{n b:Nat}{z:Value}{parts:List (Nat×Operand)}{pl:List (Nat×Nat)}{zs:List D}{R:AV->Prop}(ht:Tab Tryz.prog t (.struct fs) n b z)(hpl:plO fs.toList=some pl)(h1:one1 z.cells.toList=true)(hz:exO z.cells.toList=some zs)(h:PC hp arg (λr=>∃ds,NE (λi=>pl[i]?) zs r=some ds/\R (.d (Bb ds))) [] parts):∃r,Quiet Tryz.prog hp ⟨dd,.build t parts.toArray,ty,ps,af,gd⟩ arg r/\R r:=by
 obtain ⟨r,h2,ds,h3,h4⟩:=JC h
 rw [LY hz] at h3
 exact ⟨_,A0E ht (YT hpl) h1 h2 (Jl h3),h4⟩
theorem FK{t e:TypeId}{len n b n' b':Nat}{z z':Value}{d:TypeDesc}{parts:List (Nat×Operand)}{zs:List D}{R:AV->Prop}(ht:Tab P t (.array len e) n b z)(he:Tab P e d n' b' z')(h1:one1 z.cells.toList=true)(hz:exO z.cells.toList=some zs)(h:PC hp arg (λr=>∃ds,NE (λi=>some (i*n',n')) zs r=some ds/\R (.d (Bb ds))) [] parts):∃r,Quiet P hp ⟨dd,.build t parts.toArray,ty,ps,af,gd⟩ arg r/\R r:=by
 obtain ⟨r,h2,ds,h3,h4⟩:=JC h
 rw [LY hz] at h3
 exact ⟨_,RU ht he h1 h2 (Jl h3),h4⟩
theorem Cl{t e:TypeId}{len n b n' b':Nat}{z z':Value}{d:TypeDesc}{parts:List (Nat×Operand)}{R:AV->Prop}(ht:Tab P t (.slice e) n b z)(he:Tab P e d n' b' z')(hlen:Nat.blt 0 len=true)(hn:Nat.blt 0 n'=true)(hz:z'.cells.size=n')(h24:Nat.ble (len*n') 16777216=true)(h1:one1 z'.cells.toList=true)(h:PC hp arg (λr=>∃ds,NE (λi=>some (i*n',n')) (List.replicate (len*n') Cp) r=some ds/\R (.d (slD e n' (Eh n' len ds)))) [] parts):∃r,Quiet P hp ⟨dd,.buildSlice t len parts.toArray,ty,ps,af,gd⟩ arg r/\R r:=by
 obtain ⟨r,h2,ds,h3,h4⟩:=JC h
 exact ⟨_,Ie ht he (by simpa [Nat.blt_eq] using hlen) (by simpa [Nat.blt_eq] using hn) hz (Nat.le_of_ble_eq_true h24) h1 h2 (Jl h3),h4⟩
theorem BF{t e:TypeId}{n b n' b':Nat}{z z':Value}{d:TypeDesc}{x:Operand}{es:List D}(hx:arg x = .d (Bb es))(ht:Tab P t (.slice e) n b z)(he:Tab P e d n' b' z')(hl:es.length=n')(hn:Nat.blt 0 n'=true)(hz:z'.cells.size=n')(h24:Nat.ble n' 16777216=true)(h1:one1 z'.cells.toList=true):Quiet P hp ⟨dd,.buildSlice t 1 #[(0,x)],ty,ps,af,gd⟩ arg (.d (slD e n' [es])):=by
 have hb:(Nat.beq es.length n'&&Nat.ble (0*n'+n') (List.replicate (1*n') Cp).length)=true:=by
  simp [hl]
 have hf:EC (λi=>some (i*n',n')) (List.replicate (1*n') Cp) [(0,es)]=some es:=by
  simp only [EC]
  rw [hb]
  simp only [cond_true,Nf,Option.some.injEq]
  rw [Nat.zero_mul,List.take_zero,List.nil_append,List.drop_eq_nil_of_le (by simp [hl]),List.append_nil]
 have h:=Ie (P:=P) (hp:=hp) (dd:=dd) (ty:=ty) (ps:=ps) (af:=af) (gd:=gd) (len:=1) (parts:=[(0,x)]) (r:=[(0,es)]) ht he (by omega) (by simpa [Nat.blt_eq] using hn) hz (by have:=Nat.le_of_ble_eq_true h24;omega) h1 (Oa hx PartsA.nil) hf
 have e1:Eh n' 1 es=[es]:=by
  simp only [Eh]
  rw [<-hl,List.take_length]
 rwa [e1] at h
theorem Hq{σ:AS}{acc:List HR}{e:List (Nat×Nat)}{o:Oper}{R:HR->Prop}(hg:o.guard=none)(h:∃r,Quiet P σ.hp o (KF σ acc e) r/\R (.av r)):∃r,HStep P σ acc e o r/\R r:=by
 obtain ⟨r,h1,h2⟩:=h
 exact ⟨_,VR hg h1,h2⟩
end
section
variable {P:Program} {s0:An} {m:Nat} {ops:Array Oper} {Q:Exit->AS->Prop} {rest:List Oper} {σ:AS} {hp:List Ow} {arg:Operand->AV} {dd:Option Tmp} {ty:TypeId} {ps:String} {af:Array Edge} {gd:Option (Nat×Bool)} {R:AV->Prop} {H:HR->Prop} {acc:List HR} {e:List (Nat×Nat)}
theorem A4y{t:TypeId}{x:Operand}{lo hi mx:Option Operand}(h:∃r,Quiet P hp ⟨dd,.slice t x lo hi mx,ty,ps,af,gd⟩ arg r/\R r):∃r,Quiet P hp ⟨dd,.slice t x lo hi mx,ty,ps,af,gd⟩ arg r/\R r:=h
theorem A4A{t:TypeId}{x:Operand}{lo hi mx:Option Operand}(h:∃r,HStep P σ acc e ⟨dd,.slice t x lo hi mx,ty,ps,af,gd⟩ r/\H r):∃r,HStep P σ acc e ⟨dd,.slice t x lo hi mx,ty,ps,af,gd⟩ r/\H r:=h
theorem A4C{t:TypeId}{x:Operand}{lo hi mx:Option Operand}(h:AWl P s0 m ops Q (⟨dd,.slice t x lo hi mx,ty,ps,af,gd⟩::rest) σ):AWl P s0 m ops Q (⟨dd,.slice t x lo hi mx,ty,ps,af,gd⟩::rest) σ:=h
theorem A57{x:Operand}{i:Nat}(h:∃r,Quiet P hp ⟨dd,.extract x i,ty,ps,af,gd⟩ arg r/\R r):∃r,Quiet P hp ⟨dd,.extract x i,ty,ps,af,gd⟩ arg r/\R r:=h
theorem A58{x:Operand}{i:Nat}(h:∃r,HStep P σ acc e ⟨dd,.extract x i,ty,ps,af,gd⟩ r/\H r):∃r,HStep P σ acc e ⟨dd,.extract x i,ty,ps,af,gd⟩ r/\H r:=h
theorem A59{x:Operand}{i:Nat}(h:AWl P s0 m ops Q (⟨dd,.extract x i,ty,ps,af,gd⟩::rest) σ):AWl P s0 m ops Q (⟨dd,.extract x i,ty,ps,af,gd⟩::rest) σ:=h
theorem A4z{t:TypeId}(h:∃r,Quiet P hp ⟨dd,.alloc t,ty,ps,af,gd⟩ arg r/\R r):∃r,Quiet P hp ⟨dd,.alloc t,ty,ps,af,gd⟩ arg r/\R r:=h
theorem A4B{t:TypeId}(h:∃r,HStep P σ acc e ⟨dd,.alloc t,ty,ps,af,gd⟩ r/\H r):∃r,HStep P σ acc e ⟨dd,.alloc t,ty,ps,af,gd⟩ r/\H r:=h
theorem A4D{t:TypeId}(h:AWl P s0 m ops Q (⟨dd,.alloc t,ty,ps,af,gd⟩::rest) σ):AWl P s0 m ops Q (⟨dd,.alloc t,ty,ps,af,gd⟩::rest) σ:=h
end
structure CellAt(ds:List D)(off:Nat)(u:D):Prop where
 lt:off<ds.length
 eq:BG ds off=u
structure PartAt(ds:List D)(off n:Nat)(es:List D):Prop where
 le:off+n<=ds.length
 eq:(ds.drop off).take n=es
structure SetAt(ds:List D)(off:Nat)(es ds':List D):Prop where
 le:off+es.length<=ds.length
 eq:Nf ds off es=ds'
theorem CellAt.mon{a:Nat->Int}{k:Nat}(h:k<8):CellAt (AK a) k (ex (.int .i64 (a k))):=⟨h,Hv h⟩
theorem Se{a:Nat->Int}{k:Nat}(h:k<8):CellAt (AK a) (0+k*1) (ex (.int .i64 (a k))):=by rw [Nat.zero_add,Nat.mul_one];exact .mon h
theorem Sd{a:Nat->Int}{k:Nat}(h:k<8):CellAt ((AK a).drop (k*1)) 0 (ex (.int .i64 (a k))):=by
 rw [Nat.mul_one]
 refine ⟨by rw [List.length_drop,Cq];omega,?_⟩
 rw [Jq]
 exact Hv h
theorem XY{c:Rat}{a:Nat->Int}{k:Nat}(h:k<8):CellAt (BT c++AK a) (0+4+k*1) (ex (.int .i64 (a k))):=by
 have e:BG (BT c++AK a) (4+k)=BG (AK a) k:=by rw [show 4+k=k+4 by omega];rfl
 rw [Nat.zero_add,Nat.mul_one]
 exact ⟨by rw [List.length_append,Eu,Cq];omega,e.trans (Hv h)⟩
theorem Nv{a:Nat->Int}{k:Nat}{z:Int}(h:k<8):Nf (AK a) k [ex (.int .i64 z)]=AK (HV a k z):=by
 match k,h with
 | 0,_=>rfl
 | 1,_=>rfl
 | 2,_=>rfl
 | 3,_=>rfl
 | 4,_=>rfl
 | 5,_=>rfl
 | 6,_=>rfl
 | 7,_=>rfl
theorem SetAt.mon{a:Nat->Int}{k:Nat}{z:Int}(h:k<8):SetAt (AK a) (0+k*1) [ex (.int .i64 z)] (AK (HV a k z)):=by
 rw [Nat.zero_add,Nat.mul_one]
 exact ⟨h,Nv h⟩
theorem A4q{c:Rat}{a:Nat->Int}{k:Nat}{z:Int}(h:k<8):SetAt (BT c++AK a) (0+4+k*1) [ex (.int .i64 z)] (BT c++AK (HV a k z)):=by
 rw [Nat.zero_add,Nat.mul_one]
 refine ⟨by rw [List.length_append,Eu,Cq];simp;omega,?_⟩
 rw [<-Nv h]
 unfold Nf
 have e1:(BT c++AK a).take (4+k)=BT c++(AK a).take k:=by rw [show 4+k=(BT c).length+k from rfl,List.take_length_add_append]
 have e2:(BT c++AK a).drop (4+k+[ex (.int .i64 z)].length)=(AK a).drop (k+[ex (.int .i64 z)].length):=by rw [Nat.add_assoc,show 4=(BT c).length from rfl,List.drop_length_add_append]
 rw [e1,e2,List.append_assoc]
section
variable {P:Program} {hp:List Ow} {arg:Operand->AV} {dd:Option Tmp} {ty:TypeId} {ps:String} {af:Array Edge} {gd:Option (Nat×Bool)}
theorem A3E{x y:Operand}{t:TypeId}{e n b n' b' len id off k:Nat}{d:TypeDesc}{z z':Value}{κ:IntKind}(hx:arg x = .ptr id off)(hy:arg y = .d (ex (.int κ ((k:Nat):Int))))(ht:Tab P t (.array len e) n b z)(he:Tab P e d n' b' z')(hk:k<len):Quiet P hp ⟨dd,.indexAddr t x y,ty,ps,af,gd⟩ arg (.ptr id (off+k*n')):=
 Pw (o:=⟨dd,.indexAddr t x y,ty,ps,af,gd⟩) rfl hx hy ht he (by omega) (by omega)
theorem A3F{x y:Operand}{t:TypeId}{e n b n' b' len T k:Nat}{d:TypeDesc}{z z':Value}{ds:List D}{κ:IntKind}(hx:arg x = .d (Iw T ds))(hy:arg y = .d (ex (.int κ ((k:Nat):Int))))(ht:Tab P t (.array len e) n b z)(he:Tab P e d n' b' z')(hk:k<len):Quiet P hp ⟨dd,.indexAddr t x y,ty,ps,af,gd⟩ arg (.d (Iw T (ds.drop (k*n')))):=
 Py (o:=⟨dd,.indexAddr t x y,ty,ps,af,gd⟩) rfl hx hy ht he (by omega) (by omega)
theorem A28{T U:TypeId}{x y:Operand}{a:Nat}(hx:arg x = .d (ex (.int .i64 ((a:Nat):Int))))(hy:arg y = .d (ex (.int .i64 1)))(h0:0<a)(h1:(a:Int)<9223372036854775807):Quiet P hp ⟨dd,.binOp .sub T x y U,ty,ps,af,gd⟩ arg (.d (ex (.int .i64 ((a-1:Nat):Int)))):=by
 have:=Quiet.sub (P:=P) (hp:=hp) (o:=⟨dd,.binOp .sub T x y U,ty,ps,af,gd⟩) rfl hx hy (by omega) (by omega)
 rwa [show (a:Int)-1=((a-1:Nat):Int) by omega] at this
theorem A2a{x:Operand}{t:TypeId}{d:TypeDesc}{n b T id off:Nat}{z:Value}{ds:List D}{u:D}(hx:arg x = .ptr id off)(hh:hp[id]? = some (.var T (ds.map .d)))(ht:Tab P t d n b z)(hd:Eb d=false)(hc:CellAt ds off u):Quiet P hp ⟨dd,.load t x,ty,ps,af,gd⟩ arg (.d u):=by
 have:=Jz (P:=P) (o:=⟨dd,.load t x,ty,ps,af,gd⟩) rfl hx hh ht hd hc.lt
 rwa [hc.eq] at this
theorem RS{x:Operand}{t:TypeId}{d:TypeDesc}{n b T:Nat}{z:Value}{ds:List D}{u:D}(hx:arg x = .d (Iw T ds))(ht:Tab P t d n b z)(hd:Eb d=false)(hc:CellAt ds 0 u):Quiet P hp ⟨dd,.load t x,ty,ps,af,gd⟩ arg (.d u):=by
 have:=Jy (P:=P) (hp:=hp) (o:=⟨dd,.load t x,ty,ps,af,gd⟩) rfl hx ht hd hc.lt
 rwa [hc.eq] at this
theorem WS (a b : Nat → Int) {x y : Operand} (w : World) : (do eqGuard .eql 55 x y (.agg (c8 a)) (.agg (c8 b)); binOp .eql 55 (.agg (c8 a)) (.agg (c8 b)) : Sem Value).run Tryz.prog w = .ok (.bool (HA a b)) w := by
 have heq:(Op.equalIn Op.maxDepth 55 (.agg (c8 a)) (.agg (c8 b))).run Tryz.prog w = .ok (HA a b) w:=DN a b w
 simp [eqGuard,binOp,Op.equal,heq]
theorem Wz (a b : Nat → Int) {x y : Operand} (w : World) : (do eqGuard .neq 55 x y (.agg (c8 a)) (.agg (c8 b)); binOp .neq 55 (.agg (c8 a)) (.agg (c8 b)) : Sem Value).run Tryz.prog w = .ok (.bool (!HA a b)) w := by
 have heq:(Op.equalIn Op.maxDepth 55 (.agg (c8 a)) (.agg (c8 b))).run Tryz.prog w = .ok (HA a b) w:=DN a b w
 simp [eqGuard,binOp,Op.equal,heq]
theorem Mt {op : BinOp} {T U : TypeId} {x y : Operand} {dx dy : D} {a b v : Value} {o : Oper} (hop : o.op = .binOp op T x y U) (hx : arg x = .d dx) (hy : arg y = .d dy) (ha : ∀ s u, dx.rel s u → u = a) (hb : ∀ s u, dy.rel s u → u = b) (hr : ∀ w, (do eqGuard op T x y a b; binOp op T a b : Sem Value).run P w = .ok v w) : Quiet P hp o arg (.d (ex v)) := by
 refine ⟨λbase s ρ ev hok hbs hhp h=>?_⟩
 have h1:=h x (by rw [hop];simp [Op.operands])
 have h2:=h y (by rw [hop];simp [Op.operands])
 rw [hx] at h1;rw [hy] at h2
 have e1:=ha s _ h1
 have e2:=hb s _ h2
 have:=hr s.w
 refine Bk (v:=v) ?_ ⟨GS.Le.refl s,rfl⟩
 simp only [execOp,hop,e1,e2,Sem.run_bind,this,Result.andThen_ok,Sem.run_pure]
theorem RT{x y:Operand}{U:TypeId}{a b:Nat->Int}(hx:arg x = .d (Bb (AK a)))(hy:arg y = .d (Bb (AK b))):Quiet Tryz.prog hp ⟨dd,.binOp .eql 55 x y U,ty,ps,af,gd⟩ arg (.d (ex (.bool (HA a b)))):=
 Mt rfl hx hy (λ_ _ h=>Cx h) (λ_ _ h=>Cx h) λw=>WS a b w
theorem RR{x y:Operand}{U:TypeId}{a b:Nat->Int}(hx:arg x = .d (Bb (AK a)))(hy:arg y = .d (Bb (AK b))):Quiet Tryz.prog hp ⟨dd,.binOp .neq 55 x y U,ty,ps,af,gd⟩ arg (.d (ex (.bool (!HA a b)))):=
 Mt rfl hx hy (λ_ _ h=>Cx h) (λ_ _ h=>Cx h) λw=>Wz a b w
theorem XN{x y:Operand}{U:TypeId}{a b:Nat->Int}(hx:arg x = .d (Bb (AK a)))(hy:arg y = .d (Bb (AK b)))(h:HA a b=true):Quiet Tryz.prog hp ⟨dd,.binOp .eql 55 x y U,ty,ps,af,gd⟩ arg (.d (ex (.bool true))):=by
 rw [<-h];exact RT hx hy
theorem XO{x y:Operand}{U:TypeId}{a b:Nat->Int}(hx:arg x = .d (Bb (AK a)))(hy:arg y = .d (Bb (AK b)))(h:HA a b=false):Quiet Tryz.prog hp ⟨dd,.binOp .eql 55 x y U,ty,ps,af,gd⟩ arg (.d (ex (.bool false))):=by
 rw [<-h];exact RT hx hy
theorem HM{x y:Operand}{U:TypeId}{a b:Nat->Int}(hx:arg x = .d (Bb (AK a)))(hy:arg y = .d (Bb (AK b)))(h:HA a b=true):Quiet Tryz.prog hp ⟨dd,.binOp .neq 55 x y U,ty,ps,af,gd⟩ arg (.d (ex (.bool false))):=by
 have:=RR (hp:=hp) (dd:=dd) (ty:=ty) (ps:=ps) (af:=af) (gd:=gd) (U:=U) hx hy
 rwa [h] at this
theorem HL{x y:Operand}{U:TypeId}{a b:Nat->Int}(hx:arg x = .d (Bb (AK a)))(hy:arg y = .d (Bb (AK b)))(h:HA a b=false):Quiet Tryz.prog hp ⟨dd,.binOp .neq 55 x y U,ty,ps,af,gd⟩ arg (.d (ex (.bool true))):=by
 have:=RR (hp:=hp) (dd:=dd) (ty:=ty) (ps:=ps) (af:=af) (gd:=gd) (U:=U) hx hy
 rwa [h] at this
theorem XP{x y:Operand}{T U:TypeId}{a b:Bool}(hx:arg x = .d (ex (.bool a)))(hy:arg y = .d (ex (.bool b)))(hT:P.underlying T=some .bool):Quiet P hp ⟨dd,.binOp .eql T x y U,ty,ps,af,gd⟩ arg (.d (ex (.bool (a==b)))):=
 DA (o:=⟨dd,.binOp .eql T x y U,ty,ps,af,gd⟩) rfl hx hy λw=>by
  have heq:(Op.equalIn Op.maxDepth T (.bool a) (.bool b)).run P w = .ok (a==b) w:=run_equalIn_bool w 9999 T a b hT
  simp [eqGuard,binOp,Op.equal,heq]
theorem XH{x y:Operand}{T U:TypeId}{a b:Bool}(hx:arg x = .d (ex (.bool a)))(hy:arg y = .d (ex (.bool b)))(hT:P.underlying T=some .bool):Quiet P hp ⟨dd,.binOp .neq T x y U,ty,ps,af,gd⟩ arg (.d (ex (.bool (!(a==b))))):=
 DA (o:=⟨dd,.binOp .neq T x y U,ty,ps,af,gd⟩) rfl hx hy λw=>by
  have heq:(Op.equalIn Op.maxDepth T (.bool a) (.bool b)).run P w = .ok (a==b) w:=run_equalIn_bool w 9999 T a b hT
  simp [eqGuard,binOp,Op.equal,heq]
end
section
variable {P:Program} {s0:An} {n:Nat} {ops:Array Oper} {Q:Exit->AS->Prop} {rest:List Oper} {fr:List (Nat×AV)} {hp:List Ow} {ty:TypeId} {ps:String} {af:Array Edge}
theorem DW{T T0:TypeId}{d:TypeDesc}{b id off:Nat}{z:Value}{x y:Operand}{cs cs':List D}{u:D}{hp':List Ow}(hx:AS.arg ⟨fr,hp⟩ x = .ptr id off)(hy:AS.arg ⟨fr,hp⟩ y = .d u)(hh:hp[id]? = some (.var T0 (cs.map .d)))(ht:Tab P T d 1 b z)(h1:One hp (.d u))(hc:SetAt cs off [u] cs')(hs:Do hp id (.var T0 (cs'.map .d))=some hp')
  (h:AWl P s0 n ops Q rest ⟨fr,hp'⟩):AWl P s0 n ops Q (⟨none,.store T x y,ty,ps,af,none⟩::rest) ⟨fr,hp⟩:=by
 have hlt:off<cs.length:=hc.le
 refine Ku (o:=⟨none,.store T x y,ty,ps,af,none⟩) rfl rfl rfl hx hy hh ht h1 hlt ?_
 have e1:=hc.eq
 have:Nf cs off [u]=cs.set off u:=by
  unfold Nf
  rw [List.set_eq_take_append_cons_drop,if_pos hlt]
  rfl
 rw [this] at e1
 rw [Cs hs,<-e1] at h
 exact h
end
theorem D.le.trans{x y z:D}(h:D.le x y)(h':D.le y z):D.le x z:=λs v hv=>h' s v (h s v hv)
theorem Be{x y x' y':D}(h:D.le x x')(h':D.le y y'):D.le (BC [x,y]) (BC [x',y']):=λs v hv=>by
 obtain ⟨vs,e,hl,hk⟩:=hv
 refine ⟨vs,e,hl,λk hk'=>?_⟩
 obtain ⟨u,h1,h2⟩:=hk k hk'
 match k,hk' with
 | 0,_=>exact ⟨u,h1,h s u h2⟩
 | 1,_=>exact ⟨u,h1,h' s u h2⟩
 | k+2,hk'=>exact absurd hk' (by simp)
section
variable {P:Program} {hp:List Ow} {arg:Operand->AV} {dd:Option Tmp} {ty:TypeId} {ps:String} {af:Array Edge} {gd:Option (Nat×Bool)}
theorem A29{x:Operand}{t:TypeId}{e n b:Nat}{z:Value}{l:List Nat}(hx:arg x = .d (wD l))(ht:Tab P t (.slice e) n b z):Quiet P hp ⟨dd,.call { callee:=.builtin .len,args:=#[x],argTypes:=#[t] },ty,ps,af,gd⟩ arg (.d (ex (.int .i64 (l.length:Nat)))):=by
 refine ⟨λbase s ρ ev hok hbs hhp h=>?_⟩
 have h1:=h x (by simp [Op.operands,Call.operands])
 rw [hx] at h1
 obtain ⟨A,c,e1,h2⟩:=h1.1
 rw [List.length_map] at e1
 refine Bk (v:=.int .i64 l.length) ?_ ⟨GS.Le.refl s,rfl⟩
 simp [execOp,resolve,invoke,builtin,e1,Builtin.len_,run_underlying ht.und,goInt]
theorem XK{x y:Operand}{t:TypeId}{e n b b' k:Nat}{d:TypeDesc}{z z':Value}{l:List Nat}{κ:IntKind}(hx:arg x = .d (wD l))(hy:arg y = .d (ex (.int κ ((k:Nat):Int))))(ht:Tab P t (.slice e) n b z)(he:Tab P e d 1 b' z')(hk:k<l.length):Quiet P hp ⟨dd,.indexAddr t x y,ty,ps,af,gd⟩ arg (.d (Iw 136 [ex (.int .u32 (l.getD k 0:Nat))])):=by
 refine ⟨λbase s ρ ev hok hbs hhp h=>?_⟩
 have h1:=h x (by simp [Op.operands])
 have h2:=h y (by simp [Op.operands])
 rw [hx] at h1;rw [hy] at h2
 have e2:ev y = .int κ ((k:Nat):Int):=h2
 obtain ⟨A,c,e1,h3,h4,h5⟩:=h1.1
 rw [List.length_map] at e1 h5
 obtain ⟨g,p,rfl,h6⟩:=h5 (by omega)
 have h7:=(h6 k hk).2
 have e3:(l.map λx=>[ex (.int .u32 (x:Nat))]).getD k []=[ex (.int .u32 (l.getD k 0:Nat))]:=by
  simp [List.getD_eq_getElem?_getD,hk]
 rw [e3] at h7
 refine Bk (v:=.pointer (some ⟨g,p+k*1,none⟩)) ?_ ⟨GS.Le.refl s,g,_,rfl,h7⟩
 have hb:k<l.length:=hk
 simp [execOp,e1,e2,Instr.indexAt,asIntOf,run_underlying ht.und,hb,he.run_size,Addr.add_lit]
end
theorem UD(z:Int):Abs Tryz.prog 108 [Bb (BL z)] (ex (.int .i64 z.sign)):=by
 refine Br (Az Tryz.func108 (by kernel_rfl) (by kernel_rfl)) λs vs hok hl hv=>?_
 rw [Yl hl]
 obtain ⟨x0,X0,n0,c0,e0,h0⟩:=CY (hv 0 (by simp))
 rw [e0]
 exact (YD x0 X0 n0 c0 z _ h0).mono λe w' ⟨he,hE⟩=>⟨_,he,hE,λs' hw hok' _ _=>rfl⟩
theorem A1H(x y:Int)(hn:(As x.natAbs).length<=4398046511104)(hn':(As y.natAbs).length<=4398046511104):Abs Tryz.prog 140 [Bb (BL x),Bb (BL y)] (Bb (BL (Nat.gcd x.natAbs y.natAbs:Nat))):=by
 refine Br (Az Tryz.func140 (by kernel_rfl) (by kernel_rfl)) λs vs hok hl hv=>?_
 rw [Wc hl]
 obtain ⟨x0,X0,n0,c0,e0,h0⟩:=CY (hv 0 (by simp))
 obtain ⟨x1,X1,n1,c1,e1,h1⟩:=CY (hv 1 (by simp))
 rw [e0,e1]
 exact (A1G x0 x1 X0 X1 n0 c0 n1 c1 x y _ h0 h1 hn hn').mono λe w' ⟨y,Y,m,k,he,hI,hE⟩=>⟨_,he,hE,λs' hw hok' _ _=>by subst hw;exact Fl hok' hI⟩
theorem A1v(x y:Int)(hn:(As x.natAbs).length<=4398046511104)(hn':(As y.natAbs).length<=4398046511104):Abs Tryz.prog 184 [Bb (BL x),Bb (BL y)] (Bb (BL (x*y))):=by
 refine Br (Az Tryz.func184 (by kernel_rfl) (by kernel_rfl)) λs vs hok hl hv=>?_
 rw [Wc hl]
 obtain ⟨x0,X0,n0,c0,e0,h0⟩:=CY (hv 0 (by simp))
 obtain ⟨x1,X1,n1,c1,e1,h1⟩:=CY (hv 1 (by simp))
 rw [e0,e1]
 exact (A1u x0 x1 X0 X1 n0 c0 n1 c1 x y _ h0 h1 hn hn').mono λe w' ⟨y,Y,m,k,he,hI,hE⟩=>⟨_,he,hE,λs' hw hok' _ _=>by subst hw;exact Fl hok' hI⟩
theorem In(z:Int)(h0:-9223372036854775808<=z)(h1:z<=9223372036854775807):Abs Tryz.prog 62 [ex (.int .i64 z)] (Bb (BL z)):=by
 refine Br (Az Tryz.func62 (by kernel_rfl) (by kernel_rfl)) λs vs hok hl hv=>?_
 rw [Yl hl]
 have e0:vs.getD 0 undef = .int .i64 z:=hv 0 (by simp)
 rw [e0]
 exact (SO z _ h0 h1).mono λe w' ⟨y,Y,m,k,he,hI,hE⟩=>⟨_,he,hE,λs' hw hok' _ _=>by subst hw;exact Fl hok' hI⟩
theorem A0i(x y:Int)(hn:(As x.natAbs).length<=4398046511103)(hn':(As y.natAbs).length<=4398046511103):Abs Tryz.prog 130 [Bb (BL x),Bb (BL y)] (Bb (BL (Nat.gcd x.natAbs y.natAbs:Nat))):=by
 refine Br (Az Tryz.func130 (by kernel_rfl) (by kernel_rfl)) λs vs hok hl hv=>?_
 rw [Wc hl]
 obtain ⟨x0,X0,n0,c0,e0,h0⟩:=CY (hv 0 (by simp))
 obtain ⟨x1,X1,n1,c1,e1,h1⟩:=CY (hv 1 (by simp))
 rw [e0,e1]
 exact (A0h x0 x1 X0 X1 n0 c0 n1 c1 x y _ h0 h1 hn hn').mono λe w' ⟨y,Y,m,k,he,hI,hE⟩=>⟨_,he,hE,λs' hw hok' _ _=>by subst hw;exact Fl hok' hI⟩
theorem VK(z:Int)(h0:-9223372036854775808<=z)(h1:z<=9223372036854775807):Abs Tryz.prog 86 [ex (.int .i64 z)] (Bb (BL z)):=by
 refine Br (Az Tryz.func86 (by kernel_rfl) (by kernel_rfl)) λs vs hok hl hv=>?_
 rw [Yl hl]
 have e0:vs.getD 0 undef = .int .i64 z:=hv 0 (by simp)
 rw [e0]
 exact (Pr z _ h0 h1).mono λe w' ⟨y,Y,m,k,he,hI,hE⟩=>⟨_,he,hE,λs' hw hok' _ _=>by subst hw;exact Fl hok' hI⟩
theorem A2L(x y:Nat):Abs Tryz.prog 178 [wD (As x),wD (As y)] (ex (.int .i64 (DK x y))):=by
 refine Br (Az Tryz.func178 (by kernel_rfl) (by kernel_rfl)) λs vs hok hl hv=>?_
 rw [Wc hl]
 exact (Ey _ _ x y _ (Ds (hv 0 (by simp))) (Ds (hv 1 (by simp)))).mono λe w' ⟨he,hE⟩=>⟨_,he,hE,λs' hw hok' _ _=>rfl⟩
theorem Id(x y:Nat):Abs Tryz.prog 150 [wD (As x),wD (As y)] (ex (.int .i64 (DK x y))):=by
 refine Br (Az Tryz.func150 (by kernel_rfl) (by kernel_rfl)) λs vs hok hl hv=>?_
 rw [Wc hl]
 exact (Eo _ _ x y _ (Ds (hv 0 (by simp))) (Ds (hv 1 (by simp)))).mono λe w' ⟨he,hE⟩=>⟨_,he,hE,λs' hw hok' _ _=>rfl⟩
section
variable {P:Program} {hp:List Ow} {arg:Operand->AV} {dd:Option Tmp} {ty:TypeId} {ps:String} {af:Array Edge} {gd:Option (Nat×Bool)}
theorem HP{S T:TypeId}{x:Operand}{k:IntKind}{a:Int}{d:TypeDesc}{n b n' b':Nat}{z z':Value}(hx:arg x = .d (ex (.int k a)))(hS:Tab P S d n b z)(hT:Tab P T (.int .i64) n' b' z')(h1:-9223372036854775808<=a)(h2:a<=9223372036854775807):Quiet P hp ⟨dd,.convert S T x,ty,ps,af,gd⟩ arg (.d (ex (.int .i64 a))):=by
 have:=PF (hp:=hp) (dd:=dd) (ty:=ty) (ps:=ps) (af:=af) (gd:=gd) hx hS hT
 rwa [IntWalk.i64_in _ (by omega)] at this
end
section
variable {P:Program} {hp:List Ow} {arg:Operand->AV} {dd:Option Tmp} {ty:TypeId} {ps:String} {af:Array Edge} {gd:Option (Nat×Bool)}
end
inductive AddE(e:Nat):List Oper->List Oper->Prop
 | nil:AddE e [] []
 | keep {o:Oper} {l l':List Oper} (h:AddE e l l'):AddE e (o::l) (o::l')
 | add {dd:Option Tmp} {op:Op} {ty:TypeId} {ps:String} {af:Array Edge} {gd:Option (Nat×Bool)} {l l':List Oper} (h:AddE e l l'):AddE e (⟨dd,op,ty,ps,af,gd⟩::l) (⟨dd,op,ty,ps,af.push ⟨e,.data⟩,gd⟩::l')
theorem AddE.length{e:Nat}{l l':List Oper}(h:AddE e l l'):l.length=l'.length:=by
 induction h<;>simp_all
theorem AddE.at{e:Nat}{l l':List Oper}(h:AddE e l l'):∀(i:Nat) (o:Oper),l[i]? = some o->∃o',l'[i]? = some o'/\(o'=o\/o'={ o with after:=o.after.push ⟨e,.data⟩ }):=by
 induction h with
 | nil=>intro i o ho;simp at ho
 | keep h ih=>
  intro i o ho
  cases i with
  | zero=>simp at ho;subst ho;exact ⟨_,by simp,.inl rfl⟩
  | succ i=>simpa using ih i o (by simpa using ho)
 | add h ih=>
  intro i o ho
  cases i with
  | zero=>simp at ho;subst ho;exact ⟨_,by simp,.inr rfl⟩
  | succ i=>simpa using ih i o (by simpa using ho)
def LS(e:Nat)(L L':List Oper):Bool:=
 match L[e]?,L'[e]? with
 | some oe,some oe'=>(match oe.op with | .extract _ _=>true | .move _=>true | _=>false)&&oe.guard.isNone&&(BZ oe==BZ oe') &&
  ((List.range L.length).all λi=>match L[i]?,L'[i]? with
   | some o,some o'=>(BZ o==BZ o')||(BZ oe).all λj=>(BZ o).contains j
   | _,_=>false) &&
  ((List.range L.length).all λj=>j==e||match L[j]? with
   | some o=>(BZ o).contains e||(BZ oe).contains j||oe.apart L.toArray o
   | none=>false) &&
  L.all λo=>Cj o.op
 | _,_=>false
theorem QV{P:Program}{o:Oper}{a:Act}(hop:(∃x n,o.op = .extract x n)\/∃x,o.op = .move x):(∃v,∀w,(execOp a.eval o).run P w = .ok (.value v) w)\/∀(K:Act->World->Prop) (Q:Exit->Act->World->Prop) w,¬o.wp P a w K Q:=by
 rcases hop with ⟨x,n,hop⟩ | ⟨x,hop⟩
 case inr=>exact .inl ⟨a.eval x,λw=>by simp [execOp,hop]⟩
 cases hx:a.eval x with
 | tuple cs=>
  cases hc:cs[n]? with
  | some v=>exact .inl ⟨v,λw=>by simp [execOp,hop,Instr.extract,hx,hc]⟩
  | none=>
   refine .inr λK Q w hw=>?_
   simp [Oper.wp,execOp,hop,Instr.extract,hx,hc,stuck,Oper.upon] at hw
 | _=>
  refine .inr λK Q w hw=>?_
  simp [Oper.wp,execOp,hop,Instr.extract,hx,stuck,Oper.upon] at hw
theorem ED{L:List Oper}{j:Nat}{o:Oper}{listed:Array Bool}(hsz:listed.size=L.length)(ho:L[j]? = some o):j∈Region.ready .any L.toArray listed↔listed.getD j false=false/\∀k∈BZ o,listed.getD k false=true:=by
 have hlt:j<listed.size:=by rw [hsz];exact (List.getElem?_eq_some_iff.1 ho).1
 rw [mem_ready]
 have e:listed.getD j true=listed.getD j false:=by simp [hlt]
 rw [e]
 refine and_congr_right λ_=>⟨λ⟨o',h1,h2⟩ k hk=>?_,λh=>⟨o,by simpa using ho,λe he hb=>h _ (Hy he hb)⟩⟩
 obtain rfl:o'=o:=by rw [List.getElem?_toArray,ho] at h1;exact (Option.some.inj h1).symm
 obtain ⟨e,he,hb,rfl⟩:=Gj hk
 exact h2 e he hb
theorem WT{o:Oper}{e:Nat}{k:Nat}(h:k∈BZ o):k∈BZ { o with after:=o.after.push ⟨e,.data⟩ }:=by
 obtain ⟨x,hx,hb,rfl⟩:=Gj h
 exact Hy (by simp [hx]) hb
theorem NG{o:Oper}{e:Nat}{k:Nat}(h:k∈BZ { o with after:=o.after.push ⟨e,.data⟩ }):k∈BZ o\/k=e:=by
 obtain ⟨x,hx,hb,rfl⟩:=Gj h
 rcases Array.mem_push.1 hx with hx | rfl
 .exact .inl (Hy hx hb)
 .exact .inr rfl
theorem GL{P:Program}{Q:Exit->Act->World->Prop}{e:Nat}{L L':List Oper}(hL:AddE e L L')(hb:LS e L L'=true)(hQ:∀c a w,¬Q (.panic c) a w)(hQ':¬LetsOut Q):∀(f:Nat) (listed:Array Bool) (a:Act) (w:World),listed.size=L.length ->
  (∀j o,L[j]? = some o->listed.getD j false=true->∀k∈BZ o,listed.getD k false=true) ->
  wpAny P .any L'.toArray Q f listed a w->wpAny P .any L.toArray Q f listed a w:=by
 obtain ⟨oe,oe',he,he',hb1,hb2,hb3,hb4,hb5,hb6⟩:∃oe oe',L[e]? = some oe/\L'[e]? = some oe'/\((∃x n,oe.op = .extract x n)\/∃x,oe.op = .move x)/\oe.guard=none/\BZ oe=BZ oe'/\(∀i o o',L[i]? = some o->L'[i]? = some o'->BZ o=BZ o'\/∀j∈BZ oe,j∈BZ o)/\(∀j o,L[j]? = some o->j=e\/e∈BZ o\/j∈BZ oe\/oe.apart L.toArray o=true)/\∀o∈L,Cj o.op=true:=by
  unfold LS at hb
  split at hb
  .rename_i oe oe' he he'
   simp only [Bool.and_eq_true] at hb
   obtain ⟨⟨⟨⟨⟨h1,h2⟩,h3⟩,h4⟩,h5⟩,h6⟩:=hb
   refine ⟨oe,oe',he,he',?_,by simpa using h2,by simpa using h3,λi o o' ho ho'=>?_,λj o ho=>?_,λo ho=>List.all_eq_true.1 h6 o ho⟩
   .split at h1
    .exact .inl ⟨_,_,by assumption⟩
    .exact .inr ⟨_,by assumption⟩
    .cases h1
   .have:=List.all_eq_true.1 h4 i (List.mem_range.2 (List.getElem?_eq_some_iff.1 ho).1)
    rw [ho,ho'] at this
    simpa using this
   .have:=List.all_eq_true.1 h5 j (List.mem_range.2 (List.getElem?_eq_some_iff.1 ho).1)
    rw [ho] at this
    simp only [Bool.or_eq_true,beq_iff_eq] at this
    simp only [List.contains_iff_mem] at this
    rcases this with h | (h | h) | h
    .exact .inl h
    .exact .inr (.inl h)
    .exact .inr (.inr (.inl h))
    .exact .inr (.inr (.inr h))
  .cases hb
 have hop:=hb1
 have hlen:=hL.length
 have hel:e<L.length:=(List.getElem?_eq_some_iff.1 he).1
 have hsel:∀(j:Nat) (o:Oper) cs b,L.toArray[j]? = some o->o.op ≠ .select cs b:=λj o cs b ho h=>by
  have:=hb6 o (List.mem_of_getElem? (i:=j) (by simpa using ho))
  rw [h] at this
  cases this
 intro f
 induction f with
 | zero=>
  intro listed a w hsz hcl h
  refine ⟨?_,h.2⟩
  have h1:=h.1
  refine List.eq_nil_iff_forall_not_mem.2 λi hi=>?_
  obtain ⟨_,o,ho,_⟩:=mem_ready.1 hi
  have ho:L[i]? = some o:=by simpa using ho
  obtain ⟨o',ho',hoo⟩:=hL.at i o ho
  have hi2:=(ED hsz ho).1 hi
  by_cases hr:i∈Region.ready .any L'.toArray listed
  .rw [h1] at hr;cases hr
  .have hr':e∈Region.ready .any L'.toArray listed:=by
    rw [ED (by rw [hsz,hlen]) ho'] at hr
    rw [ED (by rw [hsz,hlen]) he',<-hb3]
    rcases hb4 i o o' ho ho' with h | h
    .exact absurd ⟨hi2.1,by rw [<-h];exact hi2.2⟩ hr
    .refine ⟨?_,λk hk=>hi2.2 k (h k hk)⟩
     cases hg:listed.getD e false with
     | false=>rfl
     | true=>
      refine absurd ⟨hi2.1,λk hk=>?_⟩ hr
      rcases hoo with rfl | rfl
      .exact hi2.2 k hk
      .rcases NG hk with hk | rfl
       .exact hi2.2 k hk
       .exact hg
   rw [h1] at hr';cases hr'
 | succ f ih=>
  intro listed a w hsz hcl h
  by_cases hre:e∈Region.ready .any L.toArray listed
  .have hre2:=(ED hsz he).1 hre
   have hre':e∈Region.ready .any L'.toArray listed:=(ED (by rw [hsz,hlen]) he').2 ⟨hre2.1,by rw [<-hb3];exact hre2.2⟩
   have h1:=h.2 e hre'
   obtain ⟨oe2,he2,hoo⟩:=hL.at e oe he
   obtain rfl:oe2=oe':=Option.some.inj (he2.symm.trans he')
   have hex:execOp a.eval oe2=execOp a.eval oe:=by rcases hoo with rfl | rfl<;>rfl
   have hgd:oe2.guard=none:=by rcases hoo with rfl | rfl<;>exact hb2
   have hds:oe2.dst=oe.dst:=by rcases hoo with rfl | rfl<;>rfl
   unfold wpOp at h1
   rw [show L'.toArray[e]? = some oe2 by simpa using he'] at h1
   simp only [Region.wanted,hgd,if_true] at h1
   have h1:oe2.wp P a w (wpAny P .any L'.toArray Q f (listed.setIfInBounds e true)) Q:=h1.elim id λh=>absurd h.2 hQ'
   rcases QV (P:=P) (a:=a) hop with ⟨v,hv⟩ | hno
   .have h2:wpAny P .any L'.toArray Q f (listed.setIfInBounds e true) (a.put oe.dst v) w:=by
     unfold Oper.wp at h1
     rw [hex,hv w,Oper.upon_value,hds] at h1
     exact h1
    refine wpAny_first (v:=v) (show L.toArray[e]? = some oe by simpa using he) hsel (λc a w h=>absurd h (hQ c _ w)) f listed a w (λj oj hj hne hun hno=>?_) hre (.inl ⟨by simp [Region.wanted,hb2],hv⟩) (ih _ _ _ (by simpa using hsz) (λj o ho hl k hk=>?_) h2)
    .have hj:L[j]? = some oj:=by simpa using hj
     rcases hb5 j oj hj with h | h | h | h
     .exact absurd h hne
     .obtain ⟨x,hx,hbx,hxe⟩:=Gj h
      exact absurd hxe (hno x hx hbx)
     .have:=hre2.2 j h
      have hlt:j<listed.size:=by rw [hsz];exact (List.getElem?_eq_some_iff.1 hj).1
      simp [hlt] at this hun
      rw [this] at hun;cases hun
     .exact h
    .by_cases hje:j=e
     .subst hje
      obtain rfl:o=oe:=Option.some.inj (ho.symm.trans he)
      exact getD_set_true (hre2.2 k hk)
     .rw [getD_set_ne false (λh=>hje h.symm)] at hl
      exact getD_set_true (hcl j o ho hl k hk)
   .exfalso
    refine hno (wpAny P .any L'.toArray Q f (listed.setIfInBounds e true)) Q w ?_
    unfold Oper.wp at h1 ⊢
    rw [hex] at h1
    have:∀(r:Result Next),oe2.upon P a (wpAny P .any L'.toArray Q f (listed.setIfInBounds e true)) Q r=oe.upon P a (wpAny P .any L'.toArray Q f (listed.setIfInBounds e true)) Q r:=λr=>by
     rcases hoo with rfl | rfl<;>rfl
    rwa [this] at h1
  .have same:∀i,i∈Region.ready .any L.toArray listed↔i∈Region.ready .any L'.toArray listed:=λi=>by
    by_cases hil:i<L.length
    .have ho:L[i]? = some L[i]:=List.getElem?_eq_getElem hil
     obtain ⟨o',ho',hoo⟩:=hL.at i _ ho
     rw [ED hsz ho,ED (by rw [hsz,hlen]) ho']
     refine and_congr_right λhun=>⟨λh k hk=>?_,λh k hk=>?_⟩
     .rcases hb4 i _ o' ho ho' with h' | h'
      .exact h k (by rw [h'];exact hk)
      .rcases hoo with rfl | rfl
       .exact h k hk
       .rcases NG hk with hk | rfl
        .exact h k hk
        .cases hg:listed.getD k false with
         | true=>rfl
         | false=>exact absurd ((ED hsz he).2 ⟨hg,λj hj=>h j (h' j hj)⟩) hre
     .rcases hoo with rfl | rfl
      .exact h k hk
      .exact h k (WT hk)
    .constructor
     .intro h
      obtain ⟨_,o,ho,_⟩:=mem_ready.1 h
      have:=(Array.getElem?_eq_some_iff.1 ho).1
      simp at this
      exact absurd this hil
     .intro h
      obtain ⟨_,o,ho,_⟩:=mem_ready.1 h
      have:=(Array.getElem?_eq_some_iff.1 ho).1
      simp at this
      exact absurd (by omega) hil
   refine ⟨λhn=>h.1 (List.eq_nil_iff_forall_not_mem.2 λi hi=>?_),λi hi=>?_⟩
   .have:=(same i).2 hi
    rw [hn] at this;cases this
   .have h1:=h.2 i ((same i).1 hi)
    obtain ⟨_,o,ho,_⟩:=mem_ready.1 hi
    have ho:L[i]? = some o:=by simpa using ho
    obtain ⟨o',ho',hoo⟩:=hL.at i o ho
    have hi2:=(ED hsz ho).1 hi
    have hyl:∀t,yielded L'.toArray t=yielded L.toArray t:=λt=>by
     funext j
     unfold yielded
     simp only [List.getElem?_toArray]
     cases hj:L[j]? with
     | none=>
      have:L'[j]? = none:=by rw [List.getElem?_eq_none_iff] at hj ⊢;omega
      rw [this]
     | some oj=>
      obtain ⟨oj',hj',hjj⟩:=hL.at j oj hj
      rw [hj']
      rcases hjj with rfl | rfl<;>rfl
    have hcl2:∀j o,L[j]? = some o->(listed.setIfInBounds i true).getD j false=true->∀k∈BZ o,(listed.setIfInBounds i true).getD k false=true:=λj oj hoj hl k hk=>by
     by_cases hji:j=i
     .subst hji
      obtain rfl:oj=o:=Option.some.inj (hoj.symm.trans ho)
      exact getD_set_true (hi2.2 k hk)
     .rw [getD_set_ne false (λh=>hji h.symm)] at hl
      exact getD_set_true (hcl j oj hoj hl k hk)
    refine wpOp_mono (λa w h=>ih _ a w (by simpa using hsz) hcl2 h) ?_
    unfold wpOp at h1 ⊢
    rw [show L'.toArray[i]? = some o' by simpa using ho'] at h1
    rw [show L.toArray[i]? = some o by simpa using ho]
    rw [hyl] at h1
    rcases hoo with rfl | rfl
    .exact h1
    .exact h1
structure OnlyN(Q:Exit->AS->Prop)(e:Exit)(σ:AS):Prop where
 how:e = .normal
 run:Q .normal σ
theorem OnlyN.mk'{Q:Exit->AS->Prop}{σ:AS}(h:Q .normal σ):OnlyN Q .normal σ:=⟨rfl,h⟩
theorem JE{P:Program}{s0:An}{n:Nat}{id:Nat}{e:Nat}{L L':List Oper}{Q:Exit->AS->Prop}(hm:P.follows .mixedOrders=true)(hL:AddE e L L')(hb:LS e L L'=true):DrawOk P s0 n id L.toArray L' Q (OnlyN Q):=⟨λa w h=>by
 have hfz:∀j,(Array.replicate L.toArray.size false).getD j false=false:=λj=>by
  rcases Nat.lt_or_ge j L.length with h | h
  .simp [h]
  .simp [h]
 have hs:L'.toArray.size=L.toArray.size:=by simp [hL.length]
 rw [hs] at h
 have hp:∀c a w,¬FC s0 n (OnlyN Q) (.panic c) a w:=λc a w ⟨σ,h,_⟩=>by have:=h.how;cases this
 have hl:¬LetsOut (FC s0 n (OnlyN Q)):=λ⟨a,w,σ,h,_⟩=>by have:=h.how;cases this
 have h1:=GL hL hb hp hl _ _ _ _ (by simp) (λj o _ hl=>by rw [hfz] at hl;cases hl) h
 exact wp_mono (wp_region_any hm h1) λex a' w' ⟨σ,h,hs⟩=>by
  obtain ⟨rfl,h⟩:=h
  exact ⟨σ,h,hs⟩⟩
section
variable {P:Program} {hp:List Ow} {arg:Operand->AV} {dd:Option Tmp} {ty:TypeId} {ps:String} {af:Array Edge} {gd:Option (Nat×Bool)}
theorem Af{x:Operand}{r:AV}(hx:arg x=r:=by first | exact ao rfl | exact ah rfl):Quiet P hp ⟨dd,.move x,ty,ps,af,gd⟩ arg r:=JA hx
theorem A48{x:Operand}{r:AV}(hx:arg x=r:=by first | exact ao rfl | exact ah rfl):Quiet P hp ⟨dd,.assign x,ty,ps,af,gd⟩ arg r:=HQ hx
theorem At{x:Operand}{t:TypeId}{d:TypeDesc}{n b T id off:Nat}{z:Value}{ds r:List D}(hx:arg x = .ptr id off:=by first | exact ao rfl | exact ah rfl)(hh:hp[id]? = some (.var T (ds.map .d)):=by exact rfl)(ht:Tab P t d n b z:=by exact (Ac rfl))(hd:Eb d=true:=by exact rfl)(hr:YA off n ds=some r:=by exact rfl):Quiet P hp ⟨dd,.load t x,ty,ps,af,gd⟩ arg (.d (Bb r)):=A3D hx hh ht hd hr
theorem AQ{x:Operand}{t:TypeId}{d:TypeDesc}{n b T id off:Nat}{z:Value}{ds:List D}{r:D}(hx:arg x = .ptr id off:=by first | exact ao rfl | exact ah rfl)(hh:hp[id]? = some (.var T (ds.map .d)):=by exact rfl)(ht:Tab P t d n b z:=by exact (Ac rfl))(hd:Eb d=false:=by exact rfl)(hr:atO off ds=some r:=by exact rfl):Quiet P hp ⟨dd,.load t x,ty,ps,af,gd⟩ arg (.d r):=VO hx hh ht hd hr
theorem HJ{x:Operand}{t:TypeId}{d:TypeDesc}{n b T id off:Nat}{z:Value}{cells:List AV}{r:AV}(hx:arg x = .ptr id off:=by first | exact ao rfl | exact ah rfl)(hh:hp[id]? = some (.var T cells):=by exact rfl)(ht:Tab P t d n b z:=by exact (Ac rfl))(hd:Eb d=false:=by exact rfl)(hc:cells[off]? = some r:=by exact rfl):Quiet P hp ⟨dd,.load t x,ty,ps,af,gd⟩ arg r:=Cy hx hh ht hd hc
theorem AB{x:Operand}{t:TypeId}{d:TypeDesc}{n b T:Nat}{z:Value}{ds:List D}(hx:arg x = .d (Iw T ds):=by first | exact ao rfl | exact ah rfl)(ht:Tab P t d n b z:=by exact (Ac rfl))(hd:Eb d=true:=by exact rfl)(hn:ds.length=n:=by exact rfl):Quiet P hp ⟨dd,.load t x,ty,ps,af,gd⟩ arg (.d (Bb ds)):=XJ hx ht hd hn
theorem CA{x:Operand}{t:TypeId}{d:TypeDesc}{n b T:Nat}{z:Value}{ds:List D}{r:D}(hx:arg x = .d (Iw T ds):=by first | exact ao rfl | exact ah rfl)(ht:Tab P t d n b z:=by exact (Ac rfl))(hd:Eb d=false:=by exact rfl)(hr:atO 0 ds=some r:=by exact rfl):Quiet P hp ⟨dd,.load t x,ty,ps,af,gd⟩ arg (.d r):=A2b hx ht hd hr
theorem BI{x:Operand}{t:TypeId}{d:TypeDesc}{n b T id off:Nat}{z:Value}{ds:List D}{u:D}(hx:arg x = .ptr id off:=by first | exact ao rfl | exact ah rfl)(hh:hp[id]? = some (.var T (ds.map .d)):=by exact rfl)(ht:Tab P t d n b z:=by exact (Ac rfl))(hd:Eb d=false:=by exact rfl)(hc:CellAt ds off u:=by first | exact (Se (by first | omega | (simp;omega))) | exact (XY (by first | omega | (simp;omega)))):Quiet P hp ⟨dd,.load t x,ty,ps,af,gd⟩ arg (.d u):=A2a hx hh ht hd hc
theorem A0q{x:Operand}{t:TypeId}{d:TypeDesc}{n b T:Nat}{z:Value}{ds:List D}{u:D}(hx:arg x = .d (Iw T ds):=by first | exact ao rfl | exact ah rfl)(ht:Tab P t d n b z:=by exact (Ac rfl))(hd:Eb d=false:=by exact rfl)(hc:CellAt ds 0 u:=by exact (Sd (by first | omega | (simp;omega)))):Quiet P hp ⟨dd,.load t x,ty,ps,af,gd⟩ arg (.d u):=RS hx ht hd hc
theorem AL{x:Operand}{S:TypeId}{fs:Array Field}{f n b n' b' id off:Nat}{fd:Field}{d:TypeDesc}{z z':Value}(hx:arg x = .ptr id off:=by first | exact ao rfl | exact ah rfl)(hS:Tab P S (.struct fs) n b z:=by exact (Ac rfl))(hf:fs[f]? = some fd:=by exact rfl)(he:Tab P fd.type d n' b' z':=by exact (Ac rfl))(hn:Nat.beq n' 0=false:=by exact rfl):Quiet P hp ⟨dd,.fieldAddr S x f,ty,ps,af,gd⟩ arg (.ptr id (off+fd.offset)):=A2c hx hS hf he hn
theorem NT{α:Type}{x y:Operand}{t:TypeId}{e n b n' b' T sz:Nat}{d:TypeDesc}{z z':Value}{f:α->List D}{a:α}{l:List α}{κ:IntKind}(hx:Ed hp (arg x)=some (slD T sz ((a::l).map f)):=by exact rfl)(hy:arg y = .d (ex (.int κ 0)):=by first | exact ao rfl | exact ah rfl)(ht:Tab P t (.slice e) n b z:=by exact (Ac rfl))(he:Tab P e d n' b' z':=by exact (Ac rfl))(hsz:n'=sz:=by exact rfl):Quiet P hp ⟨dd,.indexAddr t x y,ty,ps,af,gd⟩ arg (.d (Iw T (f a))):=XL hx hy ht he hsz
theorem AE{α:Type}[Inhabited α]{x y:Operand}{t:TypeId}{e n b n' b' T sz k:Nat}{d:TypeDesc}{z z':Value}{f:α->List D}{l:List α}{κ:IntKind}(hx:Ed hp (arg x)=some (slD T sz (l.map f)):=by exact rfl)(hy:arg y = .d (ex (.int κ (k:Nat))):=by first | exact ao rfl | exact ah rfl)(ht:Tab P t (.slice e) n b z:=by exact (Ac rfl))(he:Tab P e d n' b' z':=by exact (Ac rfl))(hsz:n'=sz:=by exact rfl)(hk:k<l.length:=by first | omega | (simp;omega)):Quiet P hp ⟨dd,.indexAddr t x y,ty,ps,af,gd⟩ arg (.d (Iw T (f (l.getD k default)))):=HO hx hy ht he hsz hk
theorem BE{x y:Operand}{t:TypeId}{e n b n' b' len id off k:Nat}{d:TypeDesc}{z z':Value}{κ:IntKind}(hx:arg x = .ptr id off:=by first | exact ao rfl | exact ah rfl)(hy:arg y = .d (ex (.int κ ((k:Nat):Int))):=by first | exact ao rfl | exact ah rfl)(ht:Tab P t (.array len e) n b z:=by exact (Ac rfl))(he:Tab P e d n' b' z':=by exact (Ac rfl))(hk:k<len:=by first | omega | (simp;omega)):Quiet P hp ⟨dd,.indexAddr t x y,ty,ps,af,gd⟩ arg (.ptr id (off+k*n')):=A3E hx hy ht he hk
theorem A0r{x y:Operand}{t:TypeId}{e n b n' b' len T k:Nat}{d:TypeDesc}{z z':Value}{ds:List D}{κ:IntKind}(hx:arg x = .d (Iw T ds):=by first | exact ao rfl | exact ah rfl)(hy:arg y = .d (ex (.int κ ((k:Nat):Int))):=by first | exact ao rfl | exact ah rfl)(ht:Tab P t (.array len e) n b z:=by exact (Ac rfl))(he:Tab P e d n' b' z':=by exact (Ac rfl))(hk:k<len:=by first | omega | (simp;omega)):Quiet P hp ⟨dd,.indexAddr t x y,ty,ps,af,gd⟩ arg (.d (Iw T (ds.drop (k*n')))):=A3F hx hy ht he hk
theorem A4s{α:Type}{x y:Operand}{t:TypeId}{e n b n' b' T sz i:Nat}{d:TypeDesc}{z z':Value}{f:α->List D}{l:List α}(hx:Ed hp (arg x)=some (slD T sz (l.map f)):=by exact rfl)(hy:arg y = .d (ex (.int .i64 (i:Nat))):=by first | exact ao rfl | exact ah rfl)(ht:Tab P t (.slice e) n b z:=by exact (Ac rfl))(he:Tab P e d n' b' z':=by exact (Ac rfl))(hsz:n'=sz:=by exact rfl)(hi:i<=l.length:=by first | omega | (simp;omega)):Quiet P hp ⟨dd,.slice t x (some y) none none,ty,ps,af,gd⟩ arg (.d (slD T sz ((l.drop i).map f))):=A0C hx hy ht he hsz hi
theorem A0o{α:Type}{x y:Operand}{t:TypeId}{e n b n' b' T sz i:Nat}{d:TypeDesc}{z z':Value}{f:α->List D}{l:List α}(hx:Ed hp (arg x)=some (slD T sz (l.map f)):=by exact rfl)(hy:arg y = .d (ex (.int .i64 (i:Nat))):=by first | exact ao rfl | exact ah rfl)(ht:Tab P t (.slice e) n b z:=by exact (Ac rfl))(he:Tab P e d n' b' z':=by exact (Ac rfl))(hsz:n'=sz:=by exact rfl)(hi:i<=l.length:=by first | omega | (simp;omega)):Quiet P hp ⟨dd,.slice t x none (some y) none,ty,ps,af,gd⟩ arg (.d (slD T sz ((l.take i).map f))):=Mv hx hy ht he hsz hi
theorem AR{α:Type}{x:Operand}{t:TypeId}{e n b T sz:Nat}{z:Value}{f:α->List D}{l:List α}(hx:Ed hp (arg x)=some (slD T sz (l.map f)):=by exact rfl)(ht:Tab P t (.slice e) n b z:=by exact (Ac rfl)):Quiet P hp ⟨dd,.call { callee:=.builtin .len,args:=#[x],argTypes:=#[t] },ty,ps,af,gd⟩ arg (.d (ex (.int .i64 (l.length:Nat)))):=JB hx ht
theorem Jw{x:Operand}{t:TypeId}{e n b:Nat}{z:Value}{l:List Nat}(hx:arg x = .d (wD l):=by first | exact ao rfl | exact ah rfl)(ht:Tab P t (.slice e) n b z:=by exact (Ac rfl)):Quiet P hp ⟨dd,.call { callee:=.builtin .len,args:=#[x],argTypes:=#[t] },ty,ps,af,gd⟩ arg (.d (ex (.int .i64 (l.length:Nat)))):=A29 hx ht
theorem AD{T U:TypeId}{x y:Operand}{a:Nat}(hx:arg x = .d (ex (.int .i64 (a:Nat))):=by first | exact ao rfl | exact ah rfl)(hy:arg y = .d (ex (.int .i64 1)):=by first | exact ao rfl | exact ah rfl)(h1:(a:Int)<9223372036854775807:=by omega):Quiet P hp ⟨dd,.binOp .add T x y U,ty,ps,af,gd⟩ arg (.d (ex (.int .i64 ((a+1:Nat):Int)))):=A27 hx hy h1
theorem CC{T U:TypeId}{x y:Operand}{a b:Int}(hx:arg x = .d (ex (.int .i64 a)):=by first | exact ao rfl | exact ah rfl)(hy:arg y = .d (ex (.int .i64 b)):=by first | exact ao rfl | exact ah rfl)(h1:-9223372036854775808<=a+b:=by omega)(h2:a+b<=9223372036854775807:=by omega):Quiet P hp ⟨dd,.binOp .add T x y U,ty,ps,af,gd⟩ arg (.d (ex (.int .i64 (a+b)))):=A3I hx hy h1 h2
theorem CM{T U:TypeId}{x y:Operand}{a:Nat}(hx:arg x = .d (ex (.int .i64 ((a:Nat):Int))):=by first | exact ao rfl | exact ah rfl)(hy:arg y = .d (ex (.int .i64 1)):=by first | exact ao rfl | exact ah rfl)(h0:0<a:=by omega)(h1:(a:Int)<9223372036854775807:=by omega):Quiet P hp ⟨dd,.binOp .sub T x y U,ty,ps,af,gd⟩ arg (.d (ex (.int .i64 ((a-1:Nat):Int)))):=A28 hx hy h0 h1
theorem DV{T U:TypeId}{x y:Operand}{a b:Int}(hx:arg x = .d (ex (.int .i64 a)):=by first | exact ao rfl | exact ah rfl)(hy:arg y = .d (ex (.int .i64 b)):=by first | exact ao rfl | exact ah rfl)(h1:-9223372036854775808<=a-b:=by omega)(h2:a-b<=9223372036854775807:=by omega):Quiet P hp ⟨dd,.binOp .sub T x y U,ty,ps,af,gd⟩ arg (.d (ex (.int .i64 (a-b)))):=A3x hx hy h1 h2
theorem A3v{T U:TypeId}{x y:Operand}{a b:Int}(hx:arg x = .d (ex (.int .i64 a)):=by first | exact ao rfl | exact ah rfl)(hy:arg y = .d (ex (.int .i64 b)):=by first | exact ao rfl | exact ah rfl)(h1:-9223372036854775808<=a*b:=by omega)(h2:a*b<=9223372036854775807:=by omega):Quiet P hp ⟨dd,.binOp .mul T x y U,ty,ps,af,gd⟩ arg (.d (ex (.int .i64 (a*b)))):=TP hx hy h1 h2
theorem Ak{op:BinOp}{T U:TypeId}{x y:Operand}{k:IntKind}{a b:Int}(hb:Nz op=true:=by exact rfl)(hx:arg x = .d (ex (.int k a)):=by first | exact ao rfl | exact ah rfl)(hy:arg y = .d (ex (.int k b)):=by first | exact ao rfl | exact ah rfl)(hc:HX op a b:=by first | (simp only [HX,List.length_cons,List.length_nil];omega) | (simp [HX];done) | (simp [HX];omega)):Quiet P hp ⟨dd,.binOp op T x y U,ty,ps,af,gd⟩ arg (.d (ex (.bool true))):=A2d hb hx hy hc
theorem Aj{op:BinOp}{T U:TypeId}{x y:Operand}{k:IntKind}{a b:Int}(hb:Nz op=true:=by exact rfl)(hx:arg x = .d (ex (.int k a)):=by first | exact ao rfl | exact ah rfl)(hy:arg y = .d (ex (.int k b)):=by first | exact ao rfl | exact ah rfl)(hc:¬HX op a b:=by first | (simp only [HX,List.length_cons,List.length_nil];omega) | (simp [HX];done) | (simp [HX];omega)):Quiet P hp ⟨dd,.binOp op T x y U,ty,ps,af,gd⟩ arg (.d (ex (.bool false))):=A2e hb hx hy hc
theorem TF{op:BinOp}{T U:TypeId}{x y:Operand}{k:IntKind}{a b:Int}{c:Bool}(hx:arg x = .d (ex (.int k a)):=by first | exact ao rfl | exact ah rfl)(hy:arg y = .d (ex (.int k b)):=by first | exact ao rfl | exact ah rfl)(hc:Rm op a b=some c:=by exact rfl):Quiet P hp ⟨dd,.binOp op T x y U,ty,ps,af,gd⟩ arg (.d (ex (.bool c))):=A3H hx hy hc
theorem XF{x y:Operand}{U:TypeId}{a b:Nat->Int}(hx:arg x = .d (Bb (AK a)):=by first | exact ao rfl | exact ah rfl)(hy:arg y = .d (Bb (AK b)):=by first | exact ao rfl | exact ah rfl)(h:HA a b=true:=by assumption):Quiet Tryz.prog hp ⟨dd,.binOp .neq 55 x y U,ty,ps,af,gd⟩ arg (.d (ex (.bool false))):=HM hx hy h
theorem Kc{x y:Operand}{T U:TypeId}{a b:Bool}(hx:arg x = .d (ex (.bool a)):=by first | exact ao rfl | exact ah rfl)(hy:arg y = .d (ex (.bool b)):=by first | exact ao rfl | exact ah rfl)(hT:P.underlying T=some .bool:=by kernel_rfl):Quiet P hp ⟨dd,.binOp .eql T x y U,ty,ps,af,gd⟩ arg (.d (ex (.bool (a==b)))):=XP hx hy hT
theorem Kb{x y:Operand}{T U:TypeId}{a b:Bool}(hx:arg x = .d (ex (.bool a)):=by first | exact ao rfl | exact ah rfl)(hy:arg y = .d (ex (.bool b)):=by first | exact ao rfl | exact ah rfl)(hT:P.underlying T=some .bool:=by kernel_rfl):Quiet P hp ⟨dd,.binOp .neq T x y U,ty,ps,af,gd⟩ arg (.d (ex (.bool (!(a==b))))):=XH hx hy hT
theorem BH{T:TypeId}{x:Operand}{a:Bool}(hx:arg x = .d (ex (.bool a)):=by first | exact ao rfl | exact ah rfl):Quiet P hp ⟨dd,.unOp .not T x,ty,ps,af,gd⟩ arg (.d (ex (.bool (!a)))):=A3A hx
theorem IA{x y:Operand}{tys:Array TypeId}{k:IntKind}{a b:Int}(hx:arg x = .d (ex (.int k a)):=by first | exact ao rfl | exact ah rfl)(hy:arg y = .d (ex (.int k b)):=by first | exact ao rfl | exact ah rfl):Quiet P hp ⟨dd,.call { callee:=.builtin .max,args:=#[x,y],argTypes:=tys },ty,ps,af,gd⟩ arg (.d (ex (.int k (Max.max a b)))):=A3C hx hy
theorem A0p{x y:Operand}{tys:Array TypeId}{k:IntKind}{a b:Int}(hx:arg x = .d (ex (.int k a)):=by first | exact ao rfl | exact ah rfl)(hy:arg y = .d (ex (.int k b)):=by first | exact ao rfl | exact ah rfl):Quiet P hp ⟨dd,.call { callee:=.builtin .min,args:=#[x,y],argTypes:=tys },ty,ps,af,gd⟩ arg (.d (ex (.int k (Min.min a b)))):=A3B hx hy
theorem AI{x:Operand}{i:Nat}{ds:List D}{r:D}(hx:arg x = .d (BC ds):=by first | exact ao rfl | exact ah rfl)(hr:atO i ds=some r:=by exact rfl):Quiet P hp ⟨dd,.extract x i,ty,ps,af,gd⟩ arg (.d r):=A3G hx hr
theorem AM{c x y:Operand}{r:AV}(hx:arg x=r:=by first | exact ao rfl | exact ah rfl)(hc:arg c = .d (ex (.bool true)):=by first | exact ao rfl | exact ah rfl):Quiet P hp ⟨dd,.pick c x y,ty,ps,af,gd⟩ arg r:=A0w hx hc
theorem Bc{c x y:Operand}{r:AV}(hy:arg y=r:=by first | exact ao rfl | exact ah rfl)(hc:arg c = .d (ex (.bool false)):=by first | exact ao rfl | exact ah rfl):Quiet P hp ⟨dd,.pick c x y,ty,ps,af,gd⟩ arg r:=A0x hy hc
theorem NU{S T:TypeId}{x:Operand}{k:IntKind}{a:Int}{d:TypeDesc}{n b n' b':Nat}{z z':Value}(hx:arg x = .d (ex (.int k a)):=by first | exact ao rfl | exact ah rfl)(hS:Tab P S d n b z:=by exact (Ac rfl))(hT:Tab P T (.int .i64) n' b' z':=by exact (Ac rfl))(h1:-9223372036854775808<=a:=by omega)(h2:a<=9223372036854775807:=by omega):Quiet P hp ⟨dd,.convert S T x,ty,ps,af,gd⟩ arg (.d (ex (.int .i64 a))):=HP hx hS hT h1 h2
theorem A26{S T:TypeId}{x:Operand}{k k':IntKind}{a:Int}{d:TypeDesc}{n b n' b':Nat}{z z':Value}(hx:arg x = .d (ex (.int k a)):=by first | exact ao rfl | exact ah rfl)(hS:Tab P S d n b z:=by exact (Ac rfl))(hT:Tab P T (.int k') n' b' z':=by exact (Ac rfl)):Quiet P hp ⟨dd,.convert S T x,ty,ps,af,gd⟩ arg (.d (ex (.int k' (k'.wrap a)))):=PF hx hS hT
theorem Ad{f:Operand}{args:List Operand}{tys:Array TypeId}{fid:FuncId}{ds:List D}{r:D}(hc:Abs P fid ds r)(hf:arg f = .d (ex (.func (.func fid) #[] #[])):=by first | exact ao rfl | exact ah rfl)(ha:ArgsLe hp arg args ds:=by repeat (first | exact ArgsLe.nil | refine ArgsLe.cons rfl (D.le.refl _) ?_ | refine ArgsLe.cons rfl Dw ?_)):Quiet P hp ⟨dd,.call { callee:=.value f,args:=args.toArray,argTypes:=tys },ty,ps,af,gd⟩ arg (.d r):=A2f hf hc ha
end
section
variable {P:Program} {s0:An} {n:Nat} {ops:Array Oper} {Q:Exit->AS->Prop} {rest:List Oper} {fr:List (Nat×AV)} {hp:List Ow} {ty:TypeId} {ps:String} {af:Array Edge} {d:Nat} {op:Op} {r:AV}
theorem Wq(hq:Quiet P hp ⟨some d,op,ty,ps,af,none⟩ (AS.arg ⟨fr,hp⟩) r)(h:AWl P s0 n ops Q rest ⟨(d,r)::fr,hp⟩)(hs:Cj op=true:=by exact rfl)(hd:Nat.blt d n=true:=by exact rfl):AWl P s0 n ops Q (⟨some d,op,ty,ps,af,none⟩::rest) ⟨fr,hp⟩:=CD hs hd ⟨r,hq,h⟩
theorem Wg{j:Nat}{b:Bool}{e:Nat}(hq:Quiet P hp ⟨some d,op,ty,ps,af,some (j,b)⟩ (AS.arg ⟨fr,hp⟩) r)(h:AWl P s0 n ops Q rest ⟨(d,r)::fr,hp⟩)(hy:(ops[j]?).bind (·.dst)=some e:=by exact rfl)(hl:CE fr e=some (.d (ex (.bool b))):=by exact rfl)(hen:Nat.blt e n=true:=by exact rfl)(hs:Cj op=true:=by exact rfl)(hd:Nat.blt d n=true:=by exact rfl):AWl P s0 n ops Q (⟨some d,op,ty,ps,af,some (j,b)⟩::rest) ⟨fr,hp⟩:=A3S hy hl hen hs hd ⟨r,hq,h⟩
theorem Ws{j:Nat}{b:Bool}{u:Value}{e:Nat}(h:AWl P s0 n ops Q rest ⟨(d,.d (ex undef))::fr,hp⟩)(hy:(ops[j]?).bind (·.dst)=some e:=by exact rfl)(hl:CE fr e=some (.d (ex u)):=by exact rfl)(hne:isB u b=false:=by exact rfl)(hen:Nat.blt e n=true:=by exact rfl)(hd:Nat.blt d n=true:=by exact rfl):AWl P s0 n ops Q (⟨some d,op,ty,ps,af,some (j,b)⟩::rest) ⟨fr,hp⟩:=A3R hy hl hne hen hd h
end
section
variable {P:Program} {σ:AS} {K:List HR->Prop} {acc acc':List HR} {o:Oper} {L:List Oper} {e:List (Nat×Nat)} {es:List (List (Nat×Nat))} {r:AV}
theorem Xq(hq:Quiet P σ.hp o (KF σ acc e) r)(h:HS P σ K acc' L es)(hg:o.guard=none:=by exact rfl)(ha:Kf acc (.av r)=some acc':=by exact rfl):HS P σ K acc (o::L) (e::es):=⟨_,VR hg hq,_,ha,h⟩
theorem Xg{j:Nat}{b:Bool}(hq:Quiet P σ.hp o (KF σ acc e) r)(h:HS P σ K acc' L es)(hg:o.guard=some (j,b):=by exact rfl)(hj:acc[j]? = some (.av (.d (ex (.bool b)))):=by exact rfl)(ha:Kf acc (.av r)=some acc':=by exact rfl):HS P σ K acc (o::L) (e::es):=⟨_,JD hg hj hq,_,ha,h⟩
theorem Xs{j:Nat}{b:Bool}{u:Value}(h:HS P σ K acc' L es)(hg:o.guard=some (j,b):=by exact rfl)(hj:acc[j]? = some (.av (.d (ex u))):=by exact rfl)(hne:isB u b=false:=by exact rfl)(ha:Kf acc (.av (.d (ex undef)))=some acc':=by exact rfl):HS P σ K acc (o::L) (e::es):=⟨_,A0I hg hj hne,_,ha,h⟩
theorem Xn{T n b:Nat}{d:TypeDesc}{z:Value}(h:HS P σ K acc' L es)(hg:o.guard=none:=by exact rfl)(hop:o.op = .alloc T:=by exact rfl)(ht:Tab P T d n b z:=by exact Ac rfl)(hT:T≠136:=by decide)(h1:one1 z.cells.toList=true:=by exact rfl)(ha:Kf acc (.new T z.cells.toList)=some acc':=by exact rfl):HS P σ K acc (o::L) (e::es):=⟨_,HStep.n hg ht hop hT h1,_,ha,h⟩
theorem HqG{R:HR->Prop}{j:Nat}{b:Bool}(hg:o.guard=some (j,b))(hj:acc[j]? = some (.av (.d (ex (.bool b)))))(h:∃r,Quiet P σ.hp o (KF σ acc e) r/\R (.av r)):∃r,HStep P σ acc e o r/\R r:=let ⟨r,h1,h2⟩:=h;⟨_,JD hg hj h1,h2⟩
end
end Go.Proofs.YtialdhnijjnpaaaGreat
set_option linter.unusedSimpArgs false
set_option linter.unusedVariables false
namespace Go.Proofs.YtialdhnijjnpaaaGreat
open Go.RowKit
section
variable {P:Program} {s0:An} {n:Nat} {ops:Array Oper} {Q:Exit->AS->Prop} {σ:AS}
theorem Yn{K:AS->Prop}(h:K σ):AThen K Q .normal σ:=GG h
theorem Y0{K:AS->Prop}(h:K σ):AWl P s0 n ops (AThen K Q) [] σ:=AWl.nil (GG h)
theorem Y1{y:Code}{i:Nat}{l:List Oper}(h:AWl P s0 n l.toArray (AThen (AWp P s0 n y Q) Q) l σ):AWp P s0 n (.seq (.region i l.toArray false) y) Q σ:=Aa (AWp.region h)
theorem Ys{K:AS->Prop}(h:K σ):AWp P s0 n .skip (AThen K Q) σ:=AWp.skip (GG h)
end
theorem Yf{P:Program}{fn:Func}{r:D}{σ:AS}{t:Nat}{av:AV}(hr:fn.results=#[.tmp t]:=by exact rfl)(h:CE σ.fr t=some av:=by exact rfl)(hx:Ed σ.hp av=some r:=by exact rfl):Fin P fn r .ret σ:=AN (by rw [hr];exact Rets.of1 (ResV.tmp h hx) (D.le.refl _))
theorem Ab {P : Program} {f : FuncId} {fn : Func} {c : Code} {ds : List D} {r : D} (hf : P.funcs[f]? = some fn) (h : ∀ s0, AWp P s0 fn.ntmps c (Fin P fn r) ⟨params 0 ds, []⟩) (hb : fn.body = some c := by exact rfl) (h1 : (fn.name == "runtime.NumGoroutine") = false := by kernel_rfl) (h2 : fn.body.isNone = false := by kernel_rfl) (hn : Nat.ble ds.length fn.ntmps = true := by exact rfl) : Abs P f ds r := Abs.intro hf hb (Az hf h1 h2) hn h
section
variable {P:Program} {s0:An} {n:Nat} {ops:Array Oper} {Q:Exit->AS->Prop} {fr:List (Nat×AV)} {hp hp':List Ow} {rest:List Oper} {ty:TypeId} {ps:String} {af:Array Edge} {d:Nat} {x:Operand} {r:AV}
theorem Wm(h:AWl P s0 n ops Q rest ⟨(d,r)::fr,hp⟩)(hx:AS.arg ⟨fr,hp⟩ x=r:=by exact ao rfl)(hd:Nat.blt d n=true:=by exact rfl):AWl P s0 n ops Q (⟨some d,.move x,ty,ps,af,none⟩::rest) ⟨fr,hp⟩:=Wq (JA hx) h rfl hd
theorem Wa(h:AWl P s0 n ops Q rest ⟨(d,r)::fr,hp⟩)(hx:AS.arg ⟨fr,hp⟩ x=r:=by exact ao rfl)(hd:Nat.blt d n=true:=by exact rfl):AWl P s0 n ops Q (⟨some d,.assign x,ty,ps,af,none⟩::rest) ⟨fr,hp⟩:=Wq (HQ hx) h rfl hd
theorem Ct{y z:Code}(h:AWp P s0 n y Q ⟨fr,hp⟩)(hx:AS.arg ⟨fr,hp⟩ x = .d (ex (.bool true)):=by exact ao rfl):AWp P s0 n (.cond x y z) Q ⟨fr,hp⟩:=Oh hx h
theorem Cf{y z:Code}(h:AWp P s0 n z Q ⟨fr,hp⟩)(hx:AS.arg ⟨fr,hp⟩ x = .d (ex (.bool false)):=by exact ao rfl):AWp P s0 n (.cond x y z) Q ⟨fr,hp⟩:=Oi hx h
theorem Sf{T T0:TypeId}{t:TypeDesc}{b id m:Nat}{z:Value}{y:Operand}{cells:List AV}{ds:List D}(h:AWl Tryz.prog s0 n ops Q rest ⟨fr,hp'⟩)(hx:AS.arg ⟨fr,hp⟩ x = .ptr id 0:=by exact ao rfl)(hy:AS.arg ⟨fr,hp⟩ y = .d (Bb ds):=by exact ao rfl)(hh:hp[id]? = some (.var T0 cells):=by exact rfl)(ht:Tab Tryz.prog T t m b z:=by exact Ac rfl)(hm:ds.length=m:=by exact rfl)(hoff:cells.length=m:=by exact rfl)(hs:Do hp id (.var T0 (ds.map .d))=some hp':=by exact rfl):AWl Tryz.prog s0 n ops Q (⟨none,.store T x y,ty,ps,af,none⟩::rest) ⟨fr,hp⟩:=A2l hx hy hh ht hm hoff hs h
theorem Al{T:TypeId}{d:TypeDesc}{m b k t:Nat}{z:Value}{c:List D}(h:AWl Tryz.prog s0 n ops Q rest ⟨(t,.ptr k 0)::fr,hp'⟩)(ht:Tab Tryz.prog T d m b z:=by exact Ac rfl)(hT:Nat.beq T 136=false:=by exact rfl)(h1:one1 z.cells.toList=true:=by exact rfl)(hd:Nat.blt t n=true:=by exact rfl)(hc:exO z.cells.toList=some c:=by exact rfl)(hk:Fk hp=some k:=by exact rfl)(hs:Dt hp (.var T (c.map .d))=some hp':=by exact rfl):AWl Tryz.prog s0 n ops Q (⟨some t,.alloc T,ty,ps,af,none⟩::rest) ⟨fr,hp⟩:=MD ht hT h1 hd hc hk hs h
theorem Bx{T:TypeId}{ds:List D}{k t:Nat}(h:AWl P s0 n ops Q rest ⟨(t,.ptr k 0)::fr,hp'⟩)(hx:AS.arg ⟨fr,hp⟩ x = .d (Bb ds):=by exact ao rfl)(hT:Nat.beq T 136=false:=by exact rfl)(hd:Nat.blt t n=true:=by exact rfl)(hk:Fk hp=some k:=by exact rfl)(hs:Dt hp (.var T (ds.map .d))=some hp':=by exact rfl):AWl P s0 n ops Q (⟨some t,.box T x,ty,ps,af,none⟩::rest) ⟨fr,hp⟩:=A3T hx hT hd hk hs h
theorem Ap{x y:Operand}{t T T2 sz bytes id m b e:Nat}{z z':Value}{d:TypeDesc}{rows r2:List (List D)}{fr':List (Nat×AV)}(h:AWl Tryz.prog s0 n ops Q rest ⟨(e,.own id)::fr',hp'⟩)(hx:AS.arg ⟨fr,hp⟩ x = .own id:=by exact ao rfl)(hy:Ed hp (AS.arg ⟨fr,hp⟩ y)=some (slD T2 sz r2):=by exact rfl)(hh:hp[id]? = some (.row T sz rows):=by exact rfl)(ht:Tab Tryz.prog t (.slice T) m b z':=by exact Ac rfl)(hT:Tab Tryz.prog T d sz bytes z:=by exact Ac rfl)(hzs:z.cells.size=sz:=by exact rfl)(hd:Nat.blt e n=true:=by exact rfl)(hbytes:(rows.length+r2.length)*bytes<=140737488355328:=by simp;omega)(h63:rows.length+r2.length<=4611686018427387904:=by simp;omega)(hf:EV id (slD T sz rows) fr=some fr':=by exact rfl)(hpl:PlainHp id hp:=by repeat (first | exact PlainHp.nil | refine PlainHp.var ?_ | refine Ck ?_ | refine PlainHp.dead ?_ | refine PlainHp.obj ?_ | refine PlainHp.pin rfl ?_ | refine BY rfl ?_))(hs:Do hp id (.row T sz (rows++r2))=some hp':=by exact rfl):AWl Tryz.prog s0 n ops Q (⟨some e,.call { callee:=.builtin .append,args:=#[x,y],argTypes:=#[t,t] },ty,ps,af,none⟩::rest) ⟨fr,hp⟩:=GE hx hy hh ht hT hzs hd hbytes h63 hf hpl hs h
end
section
variable {hp:List Ow} {m T z:Nat} {l l':List Ow}
theorem Yr{r:List (List D)}(h:HpLe hp m l l'):HpLe hp m (.row T z r::l) (.row T z r::l'):=HpLe.cons (Ca rfl) h
theorem Yv{c:List D}(h:HpLe hp m l l'):HpLe hp m (.var T (c.map .d)::l) (.var T (c.map .d)::l'):=HpLe.cons (CQ rfl) h
theorem Yd{t:Nat}{x:D}{f r:List (Nat×AV)}(h:FrLe hp m f r)(hk:CE f t=some (.d x):=by exact rfl):FrLe hp m f ((t,.d x)::r):=FrLe.cons hk (AVle.d rfl) h
theorem Yp{t i o:Nat}{f r:List (Nat×AV)}(h:FrLe hp m f r)(hk:CE f t=some (.ptr i o):=by exact rfl)(hi:Nat.blt i m=true:=by exact rfl):FrLe hp m f ((t,.ptr i o)::r):=FrLe.cons hk (AVle.ptr hi) h
end
theorem Po{hp:List Ow}{av:AV}{y:D}(h:Ed hp av=some y)(h1:One hp av:=by first | exact CH rfl | exact One.sl | exact Ei):PartOk hp av [y]:=TR h h1
theorem Dr{P:Program}{s0:An}{n:Nat}{Q:Exit->AS->Prop}{fr:List (Nat×AV)}{hp:List Ow}{id:Nat}{L:List Oper}(es:List (List (Nat×Nat)))(bs:List (List Nat))(h:HS P ⟨fr,hp⟩ (λrs=>∃τ,Pn fr hp es.length L rs=some τ/\AWl P s0 n L.toArray Q (L.drop es.length) τ) [] L es)(hm:P.follows .mixedOrders=true:=by kernel_rfl)(hlen:(es.length==bs.length&&Nat.ble es.length L.length)=true:=by exact rfl)(hok:CP L (Ej 0 es bs)=true:=by kernel_rfl)(hd:EU L es.length n=true:=by kernel_rfl)(hlt:Jn 0 L es=true:=by kernel_rfl):AWp P s0 n (.region id L.toArray true) Q ⟨fr,hp⟩:=Lf (Sa hm) es bs hlen hok hd hlt h
theorem K4{e:Nat}{a b c d:Oper}{l l':List Oper}(h:AddE e l l'):AddE e (a::b::c::d::l) (a::b::c::d::l'):=.keep (.keep (.keep (.keep h)))
theorem GF{P:Program}{s0:An}{n:Nat}{Q:Exit->AS->Prop}{c:Code}{fr:List (Nat×AV)}{hp hp':List Ow}{m:Nat}(t T sz:Nat)(h:CE fr t=some (.d (ex (.slice none 0 0))))(hT:T≠136)(h0:0<sz)(hm:Fk hp=some m)(hs:Dt hp (.row T sz [])=some hp')(k:AWp P s0 n c Q ⟨(t,.own m)::fr,hp'⟩):AWp P s0 n c Q ⟨fr,hp⟩:=by
 rw [CI hs] at k
 obtain rfl:=Ea hm
 refine ⟨λa w ⟨s,ρ,hw,hst⟩=>?_⟩
 have hv:a.tmps.getD t undef = .slice none 0 0:=hst.fr t _ h
 have hlt:t<a.tmps.size:=by
  rcases Nat.lt_or_ge t a.tmps.size with h1 | h1
  .exact h1
  .simp [h1,undef] at hv
 have hg:a.tmps[t]? = some (.slice none 0 0):=by
  rw [Array.getD_eq_getD_getElem?,Array.getElem?_eq_getElem hlt] at hv
  rw [Array.getElem?_eq_getElem hlt]
  exact congrArg some hv
 have hput:a.put (some t) (.slice none 0 0)=a:=by
  unfold Act.put
  have:a.tmps.setIfInBounds t (.slice none 0 0)=a.tmps:=by
   apply Array.ext_getElem?
   intro i
   by_cases hi:t=i
   .subst hi;rw [hg];simp [hlt]
   .rw [Array.getElem?_setIfInBounds_ne hi]
  simp only [this]
 have := hst.new (GS.Le.refl s) (dst := some t) (v := .slice none 0 0) (u := .slice none 0 0) (r := .own hp.length) (ow := .row T sz []) (fun d hd => by cases hd; rw [← hst.sz]; exact hlt) ⟨Nat.lt_succ_self _, by simp⟩
  ⟨[],by simp only [if_pos];exact ⟨by simp,.inl ⟨rfl,rfl⟩⟩,hT,h0,λb hb=>by simp [DL] at hb,λk hk=>absurd hk (Nat.not_lt_zero k)⟩ (λb hb=>by cases hb)
 rw [hput] at this
 exact k.run a w ⟨s,_,hw,this⟩
def GX(lost:List Nat):Nat->List Value->List (Value×AV)
 | _,[]=>[]
 | i,v::vs=>bif lost.contains i then GX lost (i+1) vs else (v,.own i)::GX lost (i+1) vs
theorem JN(lost:List Nat)(i:Nat)(v:Value)(vs:List Value):GX lost i (v::vs)=if i∈lost then GX lost (i+1) vs else (v,.own i)::GX lost (i+1) vs:=by
 show (bif lost.contains i then GX lost (i+1) vs else (v,.own i)::GX lost (i+1) vs)=_
 by_cases h:i∈lost
 .rw [if_pos h,List.contains_iff_mem.2 h];rfl
 .have : lost.contains i = false := by cases hb : lost.contains i with
   | true=>exact absurd (List.contains_iff_mem.1 hb) h
   | false=>rfl
  rw [if_neg h,this];rfl
theorem Qj{lost:List Nat}:∀{vs:List Value} {i:Nat} {p:Value×AV},p∈GX lost i vs->∃k,k<vs.length/\p=(vs.getD k undef,.own (i+k))
 | [],i,p,h=>by cases h
 | v::vs,i,p,h=>by
  rw [JN] at h
  have key:p∈GX lost (i+1) vs->∃k,k<(v::vs).length/\p=((v::vs).getD k undef,.own (i+k)):=λh=>by
   obtain ⟨k,h1,h2⟩:=Qj h
   exact ⟨k+1,by simpa using h1,by rw [h2,show i+1+k=i+(k+1) by omega];rfl⟩
  split at h
  .exact key h
  .rcases List.mem_cons.1 h with rfl | h
   .exact ⟨0,by simp,rfl⟩
   .exact key h
theorem Qk{lost:List Nat}:∀{vs:List Value} {i k:Nat},k<vs.length->i+k∉lost->(vs.getD k undef,AV.own (i+k))∈GX lost i vs
 | [],i,k,h,_=>by simp at h
 | v::vs,i,0,h,hl=>by
  rw [JN,if_neg (by simpa using hl)]
  exact List.mem_cons_self
 | v::vs,i,k+1,h,hl=>by
  have:=Qk (lost:=lost) (vs:=vs) (i:=i+1) (k:=k) (by simpa using h) (by rwa [show i+1+k=i+(k+1) by omega])
  rw [show i+1+k=i+(k+1) by omega] at this
  rw [JN]
  split
  .exact this
  .exact List.mem_cons_of_mem _ this
def He(s:GS)(ρ:Nat->Value)(hp:List Ow)(b:Nat):Prop:=∃i o,hp[i]? = some o/\OwB s (ρ i) o b
def Sep(s:GS)(ρ:Nat->Value)(hp:List Ow):Prop:=∀i j o o',i≠j->hp[i]? = some o->hp[j]? = some o'->∀b,OwB s (ρ i) o b->¬OwB s (ρ j) o' b
structure Aft(s:GS)(ρ:Nat->Value)(hp:List Ow)(lost:List Nat)(s':GS)(ρ':Nat->Value)(hp':List Ow):Prop where
 le:GS.LeX (He s ρ hp) s s'
 ok:s'.Ok
 mem:HpOk 0 ρ' s' hp'
 sep:Sep s' ρ' hp'
 own:∀i o b,hp'[i]? = some o->OwB s' (ρ' i) o b->He s ρ hp b\/s.w.heap.size<=b
 kp:∀i,i<hp.length->i∉lost->ρ' i=ρ i
 len:hp.length<=hp'.length
def Con(P:Program)(f:FuncId)(args:List AV)(hp:List Ow)(lost:List Nat)(Q:AV->List Ow->Prop):Prop:=
 (∀args w,(callFunc f args).run P w = .ok (.enter f args) w)/\∀(s:GS) (ρ:Nat->Value) (vs:List Value),s.Ok->HpOk 0 ρ s hp->Sep s ρ hp->vs.length=args.length->(∀(k:Nat) av,args[k]? = some av->AVr hp.length ρ s av (vs.getD k undef)) ->
  Calls P f vs.toArray s.w λe w'=>∃v,e = .returned v/\∃(s':GS) (ρ':Nat->Value) (r:AV) (hp':List Ow),Q r hp'/\s'.w=w'/\AVr hp'.length ρ' s' r v/\Aft s ρ hp lost s' ρ' hp'
theorem Con.mono{P:Program}{f:FuncId}{args:List AV}{hp:List Ow}{lost:List Nat}{Q Q':AV->List Ow->Prop}(h:Con P f args hp lost Q)(hq:∀r hp',Q r hp'->Q' r hp'):Con P f args hp lost Q':=
 ⟨h.1,λs ρ vs h1 h2 h3 h4 h5=>(h.2 s ρ vs h1 h2 h3 h4 h5).mono λe w' ⟨v,he,s',ρ',r,hp',hQ,h6⟩=>⟨v,he,s',ρ',r,hp',hq r hp' hQ,h6⟩⟩
def FP:Nat->List AV->List (Nat×AV)
 | _,[]=>[]
 | i,d::ds=>(i,d)::FP (i+1) ds
theorem IZ:∀{ds:List AV} {i t:Nat} {av:AV},CE (FP i ds) t=some av->i<=t/\ds[t-i]? = some av
 | [],i,t,av,h=>by cases h
 | d::ds,i,t,av,h=>by
  unfold FP at h
  rw [Dz] at h
  split at h
  .rename_i e
   subst e
   cases h
   exact ⟨Nat.le_refl _,by simp⟩
  .rename_i e
   obtain ⟨h1,h2⟩:=IZ h
   refine ⟨by omega,?_⟩
   rw [show t-i=(t-(i+1))+1 by omega]
   simpa using h2
structure RetsA(P:Program)(σ:AS)(rs:Array ResultVar)(r:AV):Prop where
 run:∀(base:Nat) (ρ:Nat->Value) (s:GS) (tmps:Array Value) (fn:Func),fn.results=rs->HpOk base ρ s σ.hp->(∀t av,CE σ.fr t=some av->AVr σ.hp.length ρ s av (tmps.getD t undef))->∃v,(results fn tmps).run P s.w = .ok v s.w/\AVr σ.hp.length ρ s r v
theorem RetsA.one{P:Program}{σ:AS}{t:Nat}{r:AV}(h:CE σ.fr t=some r):RetsA P σ #[.tmp t] r:=⟨λ_ _ _ tmps _ hf _ hfr=>⟨_,Nn hf (rv:=.tmp t) rfl,hfr t r h⟩⟩
theorem EL{P:Program}{σ:AS}:RetsA P σ #[] (.d Cp):=⟨λ_ _ s tmps fn hf _ _=>⟨.tuple #[],by unfold results;rw [hf];simp,trivial⟩⟩
structure FinC(P:Program)(fn:Func)(lost:List Nat)(vs:List Value)(Q:AV->List Ow->Prop)(e:Exit)(σ:AS):Prop where
 how:e = .ret\/e = .normal
 res:∃r hp',RetsA P σ fn.results r/\hp'=σ.hp.set vs.length .dead/\Q r hp'
 pin:σ.hp[vs.length]? = some (.pin (GX lost 0 vs))
theorem GC{P:Program}{f:FuncId}{fn:Func}{c:Code}{args:List AV}{hp:List Ow}{lost:List Nat}{Q:AV->List Ow->Prop}(hf:P.funcs[f]? = some fn)(hb:fn.body=some c)(hcf:∀args w,(callFunc f args).run P w = .ok (.enter f args) w)(hn:Nat.ble args.length fn.ntmps=true)
  (h:∀(s0:An) (vs:List Value),vs.length=hp.length->AWp P s0 fn.ntmps c (FinC P fn lost vs Q) ⟨FP 0 args,hp++[.pin (GX lost 0 vs)]⟩):Con P f args hp lost Q:=by
 refine ⟨hcf,λs ρ vs hok hhp hsep hl hv=>calls_of_wp hf hb ?_⟩
 have hn':args.length<=fn.ntmps:=by simpa [Nat.ble_eq] using hn
 have hpl:((List.range hp.length).map ρ).length=hp.length:=by simp
 have hlen:(hp++[Ow.pin (GX lost 0 ((List.range hp.length).map ρ))]).length=hp.length+1:=by simp
 have hget:∀i o,(hp++[Ow.pin (GX lost 0 ((List.range hp.length).map ρ))])[i]? = some o->hp[i]? = some o\/o=Ow.pin (GX lost 0 ((List.range hp.length).map ρ)):=λi o hi=>by
  rw [List.getElem?_append] at hi
  split at hi
  .exact .inl hi
  .rename_i hge
   have:i-hp.length=0:=by
    have:=CL hi
    simp at this
    omega
   rw [this] at hi
   exact .inr (Option.some.inj hi).symm
 have Gg:∀k,k<hp.length->((List.range hp.length).map ρ).getD k undef=ρ k:=λk hk=>by
  rw [List.getD_eq_getElem?_getD,List.getElem?_map,List.getElem?_range hk]
  rfl
 refine wp_mono ((h ⟨s,He s ρ hp⟩ ((List.range hp.length).map ρ) hpl).run { tmps:=vs.toArray++Array.replicate (fn.ntmps-vs.toArray.size) undef,defers:=[] } s.w ⟨s,ρ,rfl,GS.LeX.refl _ s,hok,λt av ht=>?_,by simp;omega,rfl,λi o hi=>?_,λi j o o' hij hi hj b hbi hbj=>?_,λi o b hi hbi=>?_⟩) ?_
 .obtain ⟨_,h2⟩:=IZ ht
  rw [Nat.sub_zero] at h2
  have h3:t<args.length:=(List.getElem?_eq_some_iff.1 h2).1
  have h4:=hv t av h2
  have:(vs.toArray++Array.replicate (fn.ntmps-vs.toArray.size) undef).getD t undef=vs.getD t undef:=by
   rw [Array.getD_eq_getD_getElem?,Array.getElem?_append_left (by simp;omega)]
   simp
  show AVr (hp++[Ow.pin _]).length ρ s av ((vs.toArray++Array.replicate (fn.ntmps-vs.toArray.size) undef).getD t undef)
  rw [this,hlen]
  exact h4.mono (Nat.le_succ _) λ_ _=>rfl
 .show OwR 0 (hp++[Ow.pin _]).length ρ s i o
  rw [hlen]
  rcases hget i o hi with h1 | rfl
  .exact (hhp i o h1).mono (Nat.le_succ _) (λ_ _=>rfl) (CL h1)
  .intro p hp'
   obtain ⟨k,h1,rfl⟩:=Qj hp'
   rw [hpl] at h1
   rw [Nat.zero_add]
   exact ⟨by omega,Gg k h1⟩
 .rcases hget i o hi with h1 | rfl
  .rcases hget j o' hj with h2 | rfl
   .exact hsep i j o o' hij h1 h2 b hbi hbj
   .exact hbj.elim
  .exact hbi.elim
 .rcases hget i o hi with h1 | rfl
  .exact .inl ⟨i,o,h1,hbi⟩
  .exact hbi.elim
 .intro e a w ⟨τ,⟨he,⟨r,hp',hR,hhp',hQ⟩,hpin⟩,s',ρ',hw,hst⟩
  subst hw
  subst hhp'
  rw [hpl] at hpin hQ
  obtain ⟨v,h1,h2⟩:=hR.run _ ρ' s' a.tmps fn rfl hst.hp hst.fr
  have hg:∀i o,(τ.hp.set hp.length .dead)[i]? = some o->o=Ow.dead\/τ.hp[i]? = some o:=λi o hi=>by
   rw [List.getElem?_set] at hi
   split at hi
   .split at hi
    .exact .inl (Option.some.inj hi).symm
    .cases hi
   .exact .inr hi
  have hfin:Aft s ρ hp lost s' ρ' (τ.hp.set hp.length .dead):=by
   refine ⟨hst.le,hst.ok,λi o hi=>?_,λi j o o' hij hi hj b hbi hbj=>?_,λi o b hi hbi=>?_,λi hi hnl=>?_,?_⟩
   .rw [List.length_set]
    rcases hg i o hi with rfl | h3
    .trivial
    .exact hst.hp i o h3
   .rcases hg i o hi with rfl | h3
    .exact hbi.elim
    .rcases hg j o' hj with rfl | h4
     .exact hbj.elim
     .exact hst.sep i j o o' hij h3 h4 b hbi hbj
   .rcases hg i o hi with rfl | h3
    .exact hbi.elim
    .exact hst.own i o b h3 hbi
   .have h3:=hst.hp _ _ hpin _ (Qk (i:=0) (k:=i) (by rw [hpl]; exact hi) (by rw [Nat.zero_add]; exact hnl))
    rw [Gg i hi,Nat.zero_add] at h3
    exact h3.2.symm
   .rw [List.length_set]
    exact Nat.le_of_lt (CL hpin)
  have h2':AVr (τ.hp.set hp.length .dead).length ρ' s' r v:=by rw [List.length_set];exact h2
  rcases he with rfl | rfl
  .exact ⟨hst.df,v,h1,v,rfl,s',ρ',r,_,hQ,rfl,h2',hfin⟩
  .exact ⟨hst.df,v,h1,v,rfl,s',ρ',r,_,hQ,rfl,h2',hfin⟩
section
variable {P:Program} {f:FuncId} {fn:Func} {c:Code} {args:List AV} {Q:AV->List Ow->Prop} (hf:P.funcs[f]? = some fn) (hb:fn.body=some c) (hcf:∀args w,(callFunc f args).run P w = .ok (.enter f args) w) (hn:Nat.ble args.length fn.ntmps=true)
include hf hb hcf hn
theorem GD(h:∀(s0:An),AWp P s0 fn.ntmps c (FinC P fn [] [] Q) ⟨FP 0 args,[.pin []]⟩):Con P f args [] [] Q:=
 GC hf hb hcf hn λs0 vs hv=>by
  match vs,hv with
  | [],_=>exact h s0
theorem BK{o0:Ow}(h:∀(s0:An) (v0:Value),AWp P s0 fn.ntmps c (FinC P fn [] [v0] Q) ⟨FP 0 args,[o0,.pin [(v0,.own 0)]]⟩):Con P f args [o0] [] Q:=
 GC hf hb hcf hn λs0 vs hv=>by
  match vs,hv with
  | [v0],_=>exact h s0 v0
theorem IE{o0 o1:Ow}(h:∀(s0:An) (v0 v1:Value),AWp P s0 fn.ntmps c (FinC P fn [] [v0,v1] Q) ⟨FP 0 args,[o0,o1,.pin [(v0,.own 0),(v1,.own 1)]]⟩):Con P f args [o0,o1] [] Q:=
 GC hf hb hcf hn λs0 vs hv=>by
  match vs,hv with
  | [v0,v1],_=>exact h s0 v0 v1
end
theorem Bv{P:Program}{fn:Func}{lost:List Nat}{vs:List Value}{Q:AV->List Ow->Prop}{σ:AS}{r:AV}{hp':List Ow}(h:RetsA P σ fn.results r)(hs:Do σ.hp vs.length .dead=some hp')(hQ:Q r hp')(hp:σ.hp[vs.length]? = some (.pin (GX lost 0 vs))):FinC P fn lost vs Q .ret σ:=⟨.inl rfl,⟨r,hp',h,(Cs hs),hQ⟩,hp⟩
theorem Hs{P:Program}{fn:Func}{lost:List Nat}{vs:List Value}{Q:AV->List Ow->Prop}{σ:AS}{r:AV}{hp':List Ow}(h:RetsA P σ fn.results r)(hs:Do σ.hp vs.length .dead=some hp')(hQ:Q r hp')(hp:σ.hp[vs.length]? = some (.pin (GX lost 0 vs))):FinC P fn lost vs Q .normal σ:=⟨.inr rfl,⟨r,hp',h,(Cs hs),hQ⟩,hp⟩
def AV.ren(e:Nat->Nat):AV->AV
 | .d x=>.d x
 | .ptr i off=>.ptr (e i) off
 | .own i=>.own (e i)
 | .fn f caps=>.fn f (caps.map e)
def Ow.ren(e:Nat->Nat):Ow->Ow
 | .var T cells=>.var T (cells.map (AV.ren e))
 | .pin l=>.pin (l.map λp=>(p.1,p.2.ren e))
 | o=>o
def AV.below(m:Nat):AV->Bool
 | .d _=>true
 | .ptr i _=>Nat.blt i m
 | .own i=>Nat.blt i m
 | .fn _ caps=>caps.all (Nat.blt · m)
def Ow.below(m:Nat):Ow->Prop
 | .var _ cells=>∀av∈cells,av.below m=true
 | .pin l=>∀p∈l,p.2.below m=true
 | _=>True
theorem Kv{hp:List Ow}{m:Nat}{av:AV}(h:av.below m=true):AVle hp m av av:=by
 cases av with
 | d x=>exact AVle.d rfl
 | ptr i off=>exact AVle.ptr h
 | own i=>exact AVle.own h
 | fn f caps=>exact AVle.fn h
theorem Bi{hp:List Ow}{m:Nat}{l:List (Value×AV)}(h:l.all (λp=>p.2.below m)=true):OwLe hp m (.pin l) (.pin l):=OwLe.pin λp hp=>Kv (List.all_eq_true.1 h p hp)
theorem Ce{hp:List Ow}{m T:Nat}{c:List AV}(h:c.all (AV.below m)=true):OwLe hp m (.var T c) (.var T c):=OwLe.var rfl λk y hy=>⟨y,hy,Kv (List.all_eq_true.1 h y (List.mem_of_getElem? hy))⟩
theorem Ld{s:GS}{v:Value}{e:Nat->Nat}{o:Ow}{b:Nat}:OwB s v (o.ren e) b↔OwB s v o b:=by cases o<;>exact Iff.rfl
theorem AVr.un{m m':Nat}{ρ ρ':Nat->Value}{e:Nat->Nat}{s:GS}{av:AV}{v:Value}(h:AVr m ρ s (av.ren e) v)(hb:av.below m'=true)(hρ:∀i,i<m'->ρ' i=ρ (e i)):AVr m' ρ' s av v:=by
 cases av with
 | d x=>exact h
 | ptr i off=>
  have hi:i<m':=by simpa [AV.below,Nat.blt_eq] using hb
  obtain ⟨h1,b,h2,h3⟩:=h
  exact ⟨hi,b,(hρ i hi).trans h2,h3⟩
 | own i=>
  have hi:i<m':=by simpa [AV.below,Nat.blt_eq] using hb
  exact ⟨hi,h.2.trans (hρ i hi).symm⟩
 | fn f caps=>
  have hi:∀i∈caps,i<m':=λi hi=>by
   have:=List.all_eq_true.1 hb i hi
   simpa [Nat.blt_eq] using this
  refine ⟨hi,?_⟩
  have h2:=h.2
  rw [List.map_map] at h2
  rw [h2]
  exact congrArg (λl=>Value.func (Fn.func f) #[] (List.toArray l)) (List.map_congr_left λi hm=>(hρ i (hi i hm)).symm)
theorem AVr.re{m m':Nat}{ρ ρ':Nat->Value}{e:Nat->Nat}{s:GS}{av:AV}{v:Value}(h:AVr m ρ s av v)(he:∀i,i<m->e i<m')(hρ:∀i,i<m->ρ' (e i)=ρ i):AVr m' ρ' s (av.ren e) v:=by
 cases av with
 | d x=>exact h
 | ptr i off=>
  obtain ⟨h1,b,h2,h3⟩:=h
  exact ⟨he i h1,b,(hρ i h1).trans h2,h3⟩
 | own i=>exact ⟨he i h.1,h.2.trans (hρ i h.1).symm⟩
 | fn f caps=>
  refine ⟨λi hi=>?_,?_⟩
  .obtain ⟨j,hj,rfl⟩:=List.mem_map.1 hi
   exact he j (h.1 j hj)
  .rw [List.map_map,h.2,List.map_congr_left λi hi=>(hρ i (h.1 i hi)).symm]
   rfl
theorem OwR.un{m m':Nat}{ρ ρ':Nat->Value}{e:Nat->Nat}{s:GS}{i:Nat}{o:Ow}(h:OwR 0 m ρ s (e i) (o.ren e))(hb:o.below m')(hi:i<m')(hρ:∀i,i<m'->ρ' i=ρ (e i)):OwR 0 m' ρ' s i o:=by
 cases o with
 | dead=>trivial
 | var T cells=>
  obtain ⟨b,cs,h1,h2,h3,h4,h5,h6,h7⟩:=h
  refine ⟨b,cs,(hρ i hi).trans h1,h2,h3,by simpa using h4,h5,h6,λk av hk=>?_⟩
  obtain ⟨u,h8,h9,h10⟩:=h7 k (av.ren e) (by rw [List.getElem?_map,hk];rfl)
  exact ⟨u,h8,h9,h10.un (hb av (List.mem_of_getElem? hk)) hρ⟩
 | row T sz rows=>
  replace h:OwR 0 m ρ s (e i) (.row T sz rows):=h
  unfold OwR at h ⊢
  rw [hρ i hi]
  exact h
 | obj O=>
  show O.rel s (ρ' i)
  rw [hρ i hi]
  exact h
 | pin l=>exact λp hp=>(h (p.1,p.2.ren e) (List.mem_map_of_mem (f:=λp:Value×AV=>(p.1,p.2.ren e)) hp)).un (hb p hp) hρ
theorem OwR.re{m m':Nat}{ρ ρ':Nat->Value}{e:Nat->Nat}{s:GS}{i:Nat}{o:Ow}(h:OwR 0 m ρ s i o)(hi:i<m)(he:∀i,i<m->e i<m')(hρ:∀i,i<m->ρ' (e i)=ρ i):OwR 0 m' ρ' s (e i) (o.ren e):=by
 cases o with
 | dead=>trivial
 | var T cells=>
  obtain ⟨b,cs,h1,h2,h3,h4,h5,h6,h7⟩:=h
  refine ⟨b,cs,(hρ i hi).trans h1,h2,h3,by simpa using h4,h5,h6,λk av hk=>?_⟩
  rw [List.getElem?_map] at hk
  cases hk0:cells[k]? with
  | none=>rw [hk0] at hk;cases hk
  | some av0=>
   rw [hk0] at hk
   cases hk
   obtain ⟨u,h8,h9,h10⟩:=h7 k av0 hk0
   exact ⟨u,h8,h9,h10.re he hρ⟩
 | row T sz rows=>
  show OwR 0 m' ρ' s (e i) (.row T sz rows)
  unfold OwR at h ⊢
  rw [hρ i hi]
  exact h
 | obj O=>
  show O.rel s (ρ' (e i))
  rw [hρ i hi]
  exact h
 | pin l=>
  intro p hp
  obtain ⟨q,hq,rfl⟩:=List.mem_map.1 hp
  exact (h q hq).re he hρ
def BO(sel:List Nat)(m k:Nat):Nat:=bif Nat.blt k sel.length then sel.getD k 0 else m+(k-sel.length)
theorem DH{sel:List Nat}{m k:Nat}(h:k<sel.length):BO sel m k=sel.getD k 0:=by
 have:Nat.blt k sel.length=true:=by simpa [Nat.blt_eq] using h
 rw [BO,this];rfl
theorem Gx{sel:List Nat}{m k:Nat}(h:sel.length<=k):BO sel m k=m+(k-sel.length):=by
 have:Nat.blt k sel.length=false:=by cases hb:Nat.blt k sel.length<;>simp_all [Nat.blt_eq];omega
 rw [BO,this];rfl
def SelR(e:Nat->Nat)(H:List Ow)(m:Nat):List Nat->List Ow->Prop
 | [],[]=>True
 | j::js,o::os=>H[j]? = some (o.ren e)/\o.below m/\SelR e H m js os
 | _,_=>False
theorem SelR.get{e:Nat->Nat}{H:List Ow}{m:Nat}:∀{js:List Nat} {os:List Ow},SelR e H m js os->js.length=os.length/\∀(k:Nat) o,os[k]? = some o->H[js.getD k 0]? = some (o.ren e)/\o.below m
 | [],[],_=>⟨rfl,λk o h=>by cases h⟩
 | [],_::_,h=>h.elim
 | _::_,[],h=>h.elim
 | j::js,o::os,⟨h1,h2,h3⟩=>by
  obtain ⟨h4,h5⟩:=SelR.get h3
  refine ⟨by simp [h4],λk x hx=>?_⟩
  cases k with
  | zero=>cases hx;exact ⟨h1,h2⟩
  | succ k=>exact h5 k x (by simpa using hx)
def SetR(e:Nat->Nat):List Ow->List Nat->List Ow->List Ow->Prop
 | H,[],_,H'=>H=H'
 | H,j::js,o::os,H'=>SetR e (H.set j (o.ren e)) js os H'
 | _,_::_,[],_=>False
theorem SetR.get{e:Nat->Nat}:∀{js:List Nat} {H os H':List Ow},SetR e H js os H'->H'.length=H.length/\js.length<=os.length/\∀(i:Nat) x,H'[i]? = some x->(∃k o,k<js.length/\js.getD k 0=i/\os[k]? = some o/\x=o.ren e)\/(i∉js/\H[i]? = some x)
 | [],H,os,H',h=>by
  have h:H=H':=by cases os<;>exact h
  subst h
  exact ⟨rfl,Nat.zero_le _,λi x hx=>.inr ⟨by simp,hx⟩⟩
 | _::_,_,[],_,h=>h.elim
 | j::js,H,o::os,H',h=>by
  replace h:SetR e (H.set j (o.ren e)) js os H':=h
  obtain ⟨h1,h2,h3⟩:=SetR.get h
  refine ⟨by simpa using h1,by simp;omega,λi x hx=>?_⟩
  rcases h3 i x hx with ⟨k,o',h4,h5,h6,h7⟩ | ⟨h4,h5⟩
  .exact .inl ⟨k+1,o',by simp;omega,by simpa using h5,by simpa using h6,h7⟩
  .rw [List.getElem?_set] at h5
   split at h5
   .rename_i e1
    subst e1
    split at h5
    .exact .inl ⟨0,o,by simp,rfl,rfl,(Option.some.inj h5).symm⟩
    .cases h5
   .rename_i e1
    exact .inr ⟨by simp only [List.mem_cons,not_or];exact ⟨λe=>e1 e.symm,h4⟩,h5⟩
theorem Nt{l:List Nat}(h:l.Nodup){i j:Nat}(hi:i<l.length)(hj:j<l.length)(e:l[i]=l[j]):i=j:=by
 rcases Nat.lt_trichotomy i j with h1 | h1 | h1
 .exact absurd e (List.pairwise_iff_getElem.1 h i j hi hj h1)
 .exact h1
 .exact absurd e.symm (List.pairwise_iff_getElem.1 h j i hj hi h1)
def AV.avoid(lost:List Nat):AV->Bool
 | .d _=>true
 | .ptr i _=>!lost.contains i
 | .own i=>!lost.contains i
 | .fn _ caps=>caps.all λi=>!lost.contains i
def Ow.avoid(lost:List Nat):Ow->Prop
 | .var _ cells=>∀av∈cells,av.avoid lost=true
 | .pin l=>∀p∈l,p.2.avoid lost=true
 | _=>True
theorem LE{lost:List Nat}{i:Nat}(h:(!lost.contains i)=true):i∉lost:=λhm=>by
 rw [List.contains_iff_mem.2 hm] at h
 cases h
theorem AVr.kept{m m':Nat}{ρ ρ':Nat->Value}{s:GS}{av:AV}{v:Value}{lost:List Nat}(h:AVr m ρ s av v)(hm:m<=m')(ha:av.avoid lost=true)(hρ:∀i,i<m->i∉lost->ρ' i=ρ i):AVr m' ρ' s av v:=by
 cases av with
 | d x=>exact h
 | ptr i off=>
  obtain ⟨h1,b,h2,h3⟩:=h
  exact ⟨Nat.lt_of_lt_of_le h1 hm,b,(hρ i h1 (LE ha)).trans h2,h3⟩
 | own i=>exact ⟨Nat.lt_of_lt_of_le h.1 hm,h.2.trans (hρ i h.1 (LE ha)).symm⟩
 | fn f caps=>exact ⟨λi hi=>Nat.lt_of_lt_of_le (h.1 i hi) hm,by rw [h.2,List.map_congr_left λi hi=>(hρ i (h.1 i hi) (LE (List.all_eq_true.1 ha i hi))).symm]⟩
theorem OwR.kept{m m':Nat}{ρ ρ':Nat->Value}{s:GS}{i:Nat}{o:Ow}{lost:List Nat}(h:OwR 0 m ρ s i o)(hm:m<=m')(ha:o.avoid lost)(hi:i<m)(hl:i∉lost)(hρ:∀i,i<m->i∉lost->ρ' i=ρ i):OwR 0 m' ρ' s i o:=by
 cases o with
 | dead=>trivial
 | var T cells=>
  obtain ⟨b,cs,h1,h2,h3,h4,h5,h6,h7⟩:=h
  refine ⟨b,cs,(hρ i hi hl).trans h1,h2,h3,h4,h5,h6,λk av hk=>?_⟩
  obtain ⟨u,h8,h9,h10⟩:=h7 k av hk
  exact ⟨u,h8,h9,h10.kept hm (ha av (List.mem_of_getElem? hk)) hρ⟩
 | row T sz rows=>
  unfold OwR at h ⊢
  rw [hρ i hi hl]
  exact h
 | obj O=>
  unfold OwR at h ⊢
  rw [hρ i hi hl]
  exact h
 | pin l=>exact λp hp=>(h p hp).kept hm (ha p hp) hρ
theorem A20{s0:An}{n:Nat}{σ:AS}{a:Act}{s s':GS}{ρ ρ':Nat->Value}{sel lost:List Nat}{hpS hp' H1:List Ow}(hav:(∀p∈σ.fr,p.2.avoid (lost.map (BO sel σ.hp.length))=true)/\∀i o,i∉sel->σ.hp[i]? = some o->o.avoid (lost.map (BO sel σ.hp.length)))(hll:∀k∈lost,k<sel.length)(h:StI s0 n σ a s ρ)(hnd:sel.Nodup)(hsel:SelR (BO sel σ.hp.length) σ.hp hpS.length sel hpS)
  (haft:Aft s (λk=>ρ (BO sel σ.hp.length k)) hpS lost s' ρ' hp') (hset:SetR (BO sel σ.hp.length) σ.hp sel hp' H1) :
  ∃ρ'',StI s0 n ⟨σ.fr,H1++(hp'.drop sel.length).map (Ow.ren (BO sel σ.hp.length))⟩ a s' ρ''/\∀av v,AVr hp'.length ρ' s' av v->AVr (H1++(hp'.drop sel.length).map (Ow.ren (BO sel σ.hp.length))).length ρ'' s' (av.ren (BO sel σ.hp.length)) v:=by
 obtain ⟨hl1,hl2⟩:=hsel.get
 obtain ⟨hl3,hl4,hl5⟩:=hset.get
 have hlen:(H1++(hp'.drop sel.length).map (Ow.ren (BO sel σ.hp.length))).length=σ.hp.length+(hp'.length-sel.length):=by simp [hl3]
 have hsl:∀k,k<sel.length->sel.getD k 0<σ.hp.length:=λk hk=>by
  have hk':k<hpS.length:=by omega
  exact CL (hl2 k _ (List.getElem?_eq_getElem hk')).1
 have hmem:∀k,k<sel.length->sel.getD k 0∈sel:=λk hk=>by
  rw [List.getD_eq_getElem?_getD,List.getElem?_eq_getElem hk]
  exact List.getElem_mem hk
 have hinj:∀j k,j<sel.length->k<sel.length->sel.getD j 0=sel.getD k 0->j=k:=λj k hj hk he=>by
  rw [List.getD_eq_getElem?_getD,List.getElem?_eq_getElem hj,List.getD_eq_getElem?_getD,List.getElem?_eq_getElem hk] at he
  exact Nt hnd hj hk he
 have hpos:∀i,∃k,(∃k',k'<sel.length/\sel.getD k' 0=i)->k<sel.length/\sel.getD k 0=i:=λi=>by
  by_cases hx:∃k',k'<sel.length/\sel.getD k' 0=i
  .obtain ⟨k,hk⟩:=hx
   exact ⟨k,λ_=>hk⟩
  .exact ⟨0,λh=>absurd h hx⟩
 obtain ⟨pos,hpos⟩:∃pos:Nat->Nat,∀i,(∃k',k'<sel.length/\sel.getD k' 0=i)->pos i<sel.length/\sel.getD (pos i) 0=i:=⟨λi=>(hpos i).choose,λi=>(hpos i).choose_spec⟩
 let ρ2:Nat->Value:=λi=>if i<σ.hp.length then (if i∈sel then ρ' (pos i) else ρ i) else ρ' (i-σ.hp.length+sel.length)
 have hmem':∀i,i∈sel->∃k',k'<sel.length/\sel.getD k' 0=i:=λi hi=>by
  obtain ⟨k,hk⟩:=List.getElem?_of_mem hi
  have:=(List.getElem?_eq_some_iff.1 hk).1
  exact ⟨k,this,by rw [List.getD_eq_getElem?_getD,hk];rfl⟩
 have hρ2:∀i,i<hp'.length->ρ2 (BO sel σ.hp.length i)=ρ' i:=λi hi=>by
  rcases Nat.lt_or_ge i sel.length with h1 | h1
  .have h3:=hpos _ ⟨i,h1,rfl⟩
   rw [DH h1]
   show (if sel.getD i 0<σ.hp.length then (if sel.getD i 0∈sel then ρ' (pos (sel.getD i 0)) else _) else _)=_
   rw [if_pos (hsl i h1),if_pos (hmem i h1),hinj _ _ h3.1 h1 h3.2]
  .rw [Gx h1]
   show (if _ then _ else ρ' (σ.hp.length+(i-sel.length)-σ.hp.length+sel.length))=_
   rw [if_neg (by omega)]
   congr 1
   omega
 have hρ3:∀i,i<σ.hp.length->i∉lost.map (BO sel σ.hp.length)->ρ2 i=ρ i:=λi hi hnl=>by
  show (if i<σ.hp.length then (if i∈sel then ρ' (pos i) else ρ i) else _)=_
  rw [if_pos hi]
  by_cases hx:i∈sel
  .rw [if_pos hx]
   obtain ⟨h1,h2⟩:=hpos i (hmem' i hx)
   have h3:pos i∉lost:=λhm=>hnl (List.mem_map.2 ⟨pos i,hm,by rw [DH h1,h2]⟩)
   rw [haft.kp (pos i) (by omega) h3,DH h1,h2]
  .rw [if_neg hx]
 have hlost:∀i,i∉sel->i∉lost.map (BO sel σ.hp.length):=λi hi hm=>by
  obtain ⟨k,h1,h2⟩:=List.mem_map.1 hm
  have h3:=hll k h1
  rw [DH h3] at h2
  exact hi (by rw [<-h2];exact hmem k h3)
 have hel:∀i,i<hp'.length->BO sel σ.hp.length i<σ.hp.length+(hp'.length-sel.length):=λi hi=>by
  rcases Nat.lt_or_ge i sel.length with h1 | h1
  .rw [DH h1]
   have:=hsl i h1
   omega
  .rw [Gx h1]
   omega
 have hei:∀i j,i<hp'.length->j<hp'.length->BO sel σ.hp.length i=BO sel σ.hp.length j->i=j:=λi j hi hj he=>by
  rcases Nat.lt_or_ge i sel.length with h1 | h1<;>rcases Nat.lt_or_ge j sel.length with h2 | h2
  .rw [DH h1,DH h2] at he
   exact hinj i j h1 h2 he
  .rw [DH h1,Gx h2] at he
   have:=hsl i h1
   omega
  .rw [Gx h1,DH h2] at he
   have:=hsl j h2
   omega
  .rw [Gx h1,Gx h2] at he
   omega
 have hget:∀i x,(H1++(hp'.drop sel.length).map (Ow.ren (BO sel σ.hp.length)))[i]? = some x->(∃k o,hp'[k]? = some o/\i=BO sel σ.hp.length k/\x=o.ren (BO sel σ.hp.length))\/(i<σ.hp.length/\i∉sel/\σ.hp[i]? = some x):=λi x hx=>by
  rw [List.getElem?_append] at hx
  split at hx
  .rename_i hlt
   rcases hl5 i x hx with ⟨k,o,h1,h2,h3,h4⟩ | ⟨h1,h2⟩
   .exact .inl ⟨k,o,h3,by rw [DH h1];exact h2.symm,h4⟩
   .exact .inr ⟨by omega,h1,h2⟩
  .rename_i hge
   rw [List.getElem?_map,List.getElem?_drop] at hx
   cases hk:hp'[sel.length+(i-H1.length)]? with
   | none=>rw [hk] at hx;cases hx
   | some o=>
    rw [hk] at hx
    exact .inl ⟨_,o,hk,by rw [Gx (by omega)];omega,(Option.some.inj hx).symm⟩
 have hmine:∀b,He s (λk=>ρ (BO sel σ.hp.length k)) hpS b->∃k o,k<sel.length/\hpS[k]? = some o/\σ.hp[sel.getD k 0]? = some (o.ren (BO sel σ.hp.length))/\OwB s (ρ (sel.getD k 0)) (o.ren (BO sel σ.hp.length)) b:=λb ⟨k,o,h1,h2⟩=>by
  have hk:k<sel.length:=by have:=CL h1;omega
  replace h2:OwB s (ρ (BO sel σ.hp.length k)) o b:=h2
  rw [DH hk] at h2
  exact ⟨k,o,hk,h1,(hl2 k o h1).1,Ld.2 h2⟩
 have hfar:∀i x,i∉sel->σ.hp[i]? = some x->∀b,OwB s (ρ i) x b->¬He s (λk=>ρ (BO sel σ.hp.length k)) hpS b:=λi x hi hx b hb hm=>by
  obtain ⟨k,o,h1,h2,h3,h4⟩:=hmine b hm
  exact h.sep i _ x _ (λe=>hi (by rw [e];exact hmem k h1)) hx h3 b hb h4
 have hsame:∀i x,i∉sel->σ.hp[i]? = some x->∀b,OwB s (ρ i) x b->s'.w.heap[b]? = s.w.heap[b]? /\ ∀k,s'.S b k↔s.S b k:=λi x hi hx b hb=>by
  have h1:=hfar i x hi hx b hb
  have h2:=(h.hp i x hx).blk_lt0 hb
  exact ⟨haft.le.block b h2 h1,λk=>⟨haft.le.old b k h2 h1,haft.le.chg.up b k⟩⟩
 have hback:∀i x,i<σ.hp.length->i∉sel->σ.hp[i]? = some x->∀b,OwB s' (ρ2 i) x b->OwB s (ρ i) x b:=λi x hlt hi hx b hb=>OwB.keep (h.hp i x hx) haft.le.chg (hsame i x hi hx) (by rw [<-hρ3 i hlt (hlost i hi)];exact hb)
 have hown:∀k o b,hp'[k]? = some o->OwB s' (ρ2 (BO sel σ.hp.length k)) (o.ren (BO sel σ.hp.length)) b->OwB s' (ρ' k) o b:=λk o b hk hb=>by
  rw [hρ2 k (CL hk)] at hb
  exact Ld.1 hb
 have hmx:∀b,He s (λk=>ρ (BO sel σ.hp.length k)) hpS b->s0.mine b\/s0.g.w.heap.size<=b:=λb hm=>by
  obtain ⟨k,o,h1,h2,h3,h4⟩:=hmine b hm
  exact h.own _ _ b h3 h4
 refine ⟨ρ2,⟨?_,haft.ok,λt av ht=>?_,h.sz,h.df,λi x hx=>?_,λi j x y hij hx hy b hbx hby=>?_,λi x b hx hb=>?_⟩,λav v hv=>?_⟩
 .refine ⟨haft.le.os.trans h.le.os,haft.le.tape.trans h.le.tape,haft.le.output.trans h.le.output,λk hk hm=>?_,h.le.chg.trans haft.le.chg,λb k hb hm hs=>?_,λb hb=>(haft.le.tag b (Nat.lt_of_lt_of_le hb h.le.size)).trans (h.le.tag b hb),λ_=>haft.ok⟩
  .have hn:¬He s (λk=>ρ (BO sel σ.hp.length k)) hpS k:=λhx=>(hmx k hx).elim hm λh'=>absurd hk (by omega)
   exact (haft.le.block k (Nat.lt_of_lt_of_le hk h.le.size) hn).trans (h.le.block k hk hm)
  .have hn:¬He s (λk=>ρ (BO sel σ.hp.length k)) hpS b:=λhx=>(hmx b hx).elim hm λh'=>absurd hb (by omega)
   exact h.le.old b k hb hm (haft.le.old b k (Nat.lt_of_lt_of_le hb h.le.size) hn hs)
 .show AVr (H1++_).length ρ2 s' av _
  rw [hlen]
  exact ((h.fr t av ht).chg haft.le.chg).kept (by omega) (hav.1 _ (LK ht)) hρ3
 .show OwR 0 (H1++_).length ρ2 s' i x
  rw [hlen]
  rcases hget i x hx with ⟨k,o,h1,rfl,rfl⟩ | ⟨h1,h2,h3⟩
  .exact (haft.mem k o h1).re (CL h1) hel hρ2
  .exact ((h.hp i x h3).keep haft.le.chg (hsame i x h2 h3)).kept (by omega) (hav.2 i x h2 h3) h1 (hlost i h2) hρ3
 .rcases hget i x hx with ⟨k,o,h1,rfl,rfl⟩ | ⟨h1,h2,h3⟩<;>rcases hget j y hy with ⟨k',o',h4,rfl,rfl⟩ | ⟨h4,h5,h6⟩
  .exact haft.sep k k' o o' (λe=>hij (by rw [e])) h1 h4 b (hown k o b h1 hbx) (hown k' o' b h4 hby)
  .have hb1:=hback j y h4 h5 h6 b hby
   rcases haft.own k o b h1 (hown k o b h1 hbx) with h7 | h7
   .exact hfar j y h5 h6 b hb1 h7
   .have:=(h.hp j y h6).blk_lt0 hb1
    omega
  .have hb1:=hback i x h1 h2 h3 b hbx
   rcases haft.own k' o' b h4 (hown k' o' b h4 hby) with h7 | h7
   .exact hfar i x h2 h3 b hb1 h7
   .have:=(h.hp i x h3).blk_lt0 hb1
    omega
  .exact h.sep i j x y hij h3 h6 b (hback i x h1 h2 h3 b hbx) (hback j y h4 h5 h6 b hby)
 .rcases hget i x hx with ⟨k,o,h1,rfl,rfl⟩ | ⟨h1,h2,h3⟩
  .rcases haft.own k o b h1 (hown k o b h1 hb) with h7 | h7
   .exact hmx b h7
   .exact .inr (Nat.le_trans h.le.size h7)
  .exact h.own i x b h3 (hback i x h1 h2 h3 b hb)
 .rw [hlen]
  exact hv.re hel hρ2
def A4E(hp:List Ow)(e:Nat->Nat)(m:Nat)(y a:AV):Prop:=(∃d d',a = .d d/\Ed hp y=some d'/\D.le d' d)\/(y=a.ren e/\a.below m=true)
def ArgsC(hp:List Ow)(e:Nat->Nat)(m:Nat)(arg:Operand->AV):List Operand->List AV->Prop
 | [],[]=>True
 | x::l,a::us=>A4E hp e m (arg x) a/\ArgsC hp e m arg l us
 | _,_=>False
theorem ArgsC.get{hp:List Ow}{e:Nat->Nat}{m:Nat}{arg:Operand->AV}:∀{l:List Operand} {us:List AV},ArgsC hp e m arg l us->l.length=us.length/\∀(k:Nat) a,us[k]? = some a->∃x,l[k]? = some x/\A4E hp e m (arg x) a
 | [],[],_=>⟨rfl,λk o h=>by cases h⟩
 | [],_::_,h=>h.elim
 | _::_,[],h=>h.elim
 | x::l,a::us,⟨h1,h2⟩=>by
  obtain ⟨h4,h5⟩:=ArgsC.get h2
  refine ⟨by simp [h4],λk y hy=>?_⟩
  cases k with
  | zero=>cases hy;exact ⟨x,rfl,h1⟩
  | succ k=>simpa using h5 k y (by simpa using hy)
theorem ArgsC.nil{hp:List Ow}{e:Nat->Nat}{m:Nat}{arg:Operand->AV}:ArgsC hp e m arg [] []:=trivial
theorem ArgsC.d{hp:List Ow}{e:Nat->Nat}{m:Nat}{arg:Operand->AV}{x:Operand}{l:List Operand}{us:List AV}{d d':D}(h:Ed hp (arg x)=some d')(hl:D.le d' d)(hr:ArgsC hp e m arg l us):ArgsC hp e m arg (x::l) (.d d::us):=⟨.inl ⟨d,d',rfl,h,hl⟩,hr⟩
theorem A0M{hp:List Ow}{e:Nat->Nat}{m:Nat}{arg:Operand->AV}{x:Operand}{l:List Operand}{us:List AV}{a:AV}(h:arg x=a.ren e)(hb:a.below m=true)(hr:ArgsC hp e m arg l us):ArgsC hp e m arg (x::l) (a::us):=⟨.inr ⟨h,hb⟩,hr⟩
theorem SelR.nil{e:Nat->Nat}{H:List Ow}{m:Nat}:SelR e H m [] []:=trivial
theorem SelR.var{e:Nat->Nat}{H:List Ow}{m j:Nat}{js:List Nat}{os:List Ow}{T:TypeId}{ds:List D}(h:H[j]? = some (.var T (ds.map .d)))(hr:SelR e H m js os):SelR e H m (j::js) (.var T (ds.map .d)::os):=
 ⟨by rw [h];simp only [Ow.ren,List.map_map];congr,λav hav=>by obtain ⟨d,_,rfl⟩:=List.mem_map.1 hav;rfl,hr⟩
theorem SelR.obj{e:Nat->Nat}{H:List Ow}{m j:Nat}{js:List Nat}{os:List Ow}{O:OD}(h:H[j]? = some (.obj O))(hr:SelR e H m js os):SelR e H m (j::js) (.obj O::os):=⟨h,trivial,hr⟩
theorem A0g{e:Nat->Nat}{H:List Ow}{m j T sz:Nat}{rows:List (List D)}{js:List Nat}{os:List Ow}(h:H[j]? = some (.row T sz rows))(hr:SelR e H m js os):SelR e H m (j::js) (.row T sz rows::os):=⟨h,trivial,hr⟩
theorem Xo{e:Nat->Nat}{H:List Ow}{m j:Nat}{js:List Nat}{os:List Ow}{T:TypeId}{cells cells':List AV}(h:H[j]? = some (.var T cells'))(h2:cells'=cells.map (AV.ren e))(hb:cells.all (AV.below m)=true)(hr:SelR e H m js os):SelR e H m (j::js) (.var T cells::os):=⟨by rw [h,h2];rfl,List.all_eq_true.1 hb,hr⟩
def OwRen(e:Nat->Nat)(o o':Ow):Prop:=o'=o.ren e
theorem OwRen.dead{e:Nat->Nat}:OwRen e .dead .dead:=rfl
theorem IB{e:Nat->Nat}{T:TypeId}{ds:List D}:OwRen e (.var T (ds.map .d)) (.var T (ds.map .d)):=by simp only [OwRen,Ow.ren,List.map_map];congr
theorem OwRen.obj{e:Nat->Nat}{O:OD}:OwRen e (.obj O) (.obj O):=rfl
theorem Ob{e:Nat->Nat}{T sz:Nat}{rows:List (List D)}:OwRen e (.row T sz rows) (.row T sz rows):=rfl
def Qd(e:Nat->Nat):List AV->Option (List AV)
 | []=>some []
 | .d x::l=>match Qd e l with | some r=>some (.d x::r) | none=>none
 | .ptr i off::l=>match Qd e l with | some r=>some (.ptr (e i) off::r) | none=>none
 | .own i::l=>match Qd e l with | some r=>some (.own (e i)::r) | none=>none
 | .fn f caps::l=>match Qd e l with | some r=>some (.fn f (caps.map e)::r) | none=>none
theorem UJ{e:Nat->Nat}:∀{l r:List AV},Qd e l=some r->r=l.map (AV.ren e)
 | [],r,h=>by cases h;rfl
 | av::l,r,h=>by
  have key:∃r',Qd e l=some r'/\r=av.ren e::r':=by
   cases av<;>(unfold Qd at h;split at h<;>first | (cases h;done) | (rename_i r' h';cases h;exact ⟨r',h',rfl⟩))
  obtain ⟨r',h1,rfl⟩:=key
  rw [UJ h1]
  rfl
theorem Mz{e:Nat->Nat}{T:TypeId}{c c':List AV}(h:Qd e c=some c'):OwRen e (.var T c) (.var T c'):=by rw [UJ h];rfl
theorem SetR.nil{e:Nat->Nat}{H os:List Ow}:SetR e H [] os H:=by cases os<;>rfl
theorem SetR.cons{e:Nat->Nat}{H H1 os H':List Ow}{o o':Ow}{j:Nat}{js:List Nat}(h:OwRen e o o')(hs:Do H j o'=some H1)(hr:SetR e H1 js os H'):SetR e H (j::js) (o::os) H':=by
 rw [Cs hs,h] at hr
 exact hr
def AppR(e:Nat->Nat)(H os H':List Ow):Prop:=H'=H++os.map (Ow.ren e)
theorem AppR.nil{e:Nat->Nat}{H:List Ow}:AppR e H [] H:=by simp [AppR]
theorem AppR.cons{e:Nat->Nat}{H H1 os H':List Ow}{o o':Ow}(h:OwRen e o o')(hs:Dt H o'=some H1)(hr:AppR e H1 os H'):AppR e H (o::os) H':=by
 rw [AppR,hr,CI hs,h]
 simp
def Mb:Nat->List Ow->List Ow
 | 0,l=>l
 | n+1,_::l=>Mb n l
 | _+1,[]=>[]
theorem Ra:∀(n:Nat) (l:List Ow),Mb n l=l.drop n
 | 0,l=>rfl
 | n+1,_::l=>Ra n l
 | _+1,[]=>rfl
def AVRen(e:Nat->Nat)(a a':AV):Prop:=a'=a.ren e
theorem AVRen.d{e:Nat->Nat}{x:D}:AVRen e (.d x) (.d x):=rfl
theorem AVRen.ptr{e:Nat->Nat}{i j off:Nat}(h:e i=j):AVRen e (.ptr i off) (.ptr j off):=by subst h;rfl
theorem AVRen.own{e:Nat->Nat}{i j:Nat}(h:e i=j):AVRen e (.own i) (.own j):=by subst h;rfl
theorem AVRen.fn{e:Nat->Nat}{f:FuncId}{c c':List Nat}(h:c.map e=c'):AVRen e (.fn f c) (.fn f c'):=by subst h;rfl
def PK(e:Nat->Nat)(m:Nat)(y:AV)(fid:FuncId)(caps:List Nat):Prop:=(y = .d (ex (.func (.func fid) #[] #[]))/\caps=[])\/(y = .fn fid (caps.map e)/\caps.all (Nat.blt · m)=true)
def CapsOk(hpS:List Ow):List Nat->Prop
 | []=>True
 | i::l=>(∃T cells,hpS[i]? = some (.var T cells))/\CapsOk hpS l
theorem CapsOk.get{hpS:List Ow}:∀{l:List Nat},CapsOk hpS l->∀i∈l,∃T cells,hpS[i]? = some (.var T cells)
 | [],_,i,hi=>by cases hi
 | j::l,⟨h1,h2⟩,i,hi=>by
  rcases List.mem_cons.1 hi with rfl | hi
  .exact h1
  .exact CapsOk.get h2 i hi
def AvoidR(sel lost:List Nat):Nat->List Ow->Prop
 | _,[]=>True
 | i,o::l=>(i∈sel\/o.avoid lost)/\AvoidR sel lost (i+1) l
theorem AvoidR.get{sel lost:List Nat}:∀{l:List Ow} {i:Nat},AvoidR sel lost i l->∀k o,i+k∉sel->l[k]? = some o->o.avoid lost
 | [],_,_,k,o,_,h=>by cases h
 | x::l,i,⟨h1,h2⟩,0,o,hn,h=>by
  cases h
  exact h1.resolve_left hn
 | x::l,i,⟨h1,h2⟩,k+1,o,hn,h=>AvoidR.get h2 k o (by rwa [show i+1+k=i+(k+1) by omega]) (by simpa using h)
section
variable {sel lost:List Nat} {i:Nat} {l:List Ow}
theorem AvoidR.nil:AvoidR sel lost i []:=trivial
theorem Si{o:Ow}(h:sel.contains i=true)(hr:AvoidR sel lost (i+1) l):AvoidR sel lost i (o::l):=⟨.inl (List.contains_iff_mem.1 h),hr⟩
theorem AvoidR.dead(hr:AvoidR sel lost (i+1) l):AvoidR sel lost i (.dead::l):=⟨.inr trivial,hr⟩
theorem Uc{T sz:Nat}{r:List (List D)}(hr:AvoidR sel lost (i+1) l):AvoidR sel lost i (.row T sz r::l):=⟨.inr trivial,hr⟩
theorem AvoidR.obj{O:OD}(hr:AvoidR sel lost (i+1) l):AvoidR sel lost i (.obj O::l):=⟨.inr trivial,hr⟩
theorem Sg{T:TypeId}{ds:List D}(hr:AvoidR sel lost (i+1) l):AvoidR sel lost i (.var T (ds.map .d)::l):=⟨.inr λav hav=>by obtain ⟨d,_,rfl⟩:=List.mem_map.1 hav;rfl,hr⟩
theorem Sh{T:TypeId}{c:List AV}(h:c.all (AV.avoid lost)=true)(hr:AvoidR sel lost (i+1) l):AvoidR sel lost i (.var T c::l):=⟨.inr (List.all_eq_true.1 h),hr⟩
theorem AvoidR.pin{c:List (Value×AV)}(h:c.all (λp=>p.2.avoid lost)=true)(hr:AvoidR sel lost (i+1) l):AvoidR sel lost i (.pin c::l):=⟨.inr (List.all_eq_true.1 h),hr⟩
end
def LostOk(sel lost:List Nat)(m:Nat)(fr:List (Nat×AV))(hp:List Ow):Prop:=lost=[]\/(lost.all (Nat.blt · sel.length)=true/\fr.all (λp=>p.2.avoid (lost.map (BO sel m)))=true/\AvoidR sel (lost.map (BO sel m)) 0 hp)
theorem AV.avoid_nil(av:AV):av.avoid []=true:=by
 cases av with
 | fn f caps=>exact List.all_eq_true.2 λi _=>rfl
 | _=>rfl
theorem Ow.avoid_nil(o:Ow):o.avoid []:=by
 cases o with
 | var T c=>exact λav _=>av.avoid_nil
 | pin l=>exact λp _=>p.2.avoid_nil
 | _=>trivial
theorem LostOk.get{sel lost:List Nat}{m:Nat}{fr:List (Nat×AV)}{hp:List Ow}(h:LostOk sel lost m fr hp):((∀p∈fr,p.2.avoid (lost.map (BO sel m))=true)/\∀i o,i∉sel->hp[i]? = some o->o.avoid (lost.map (BO sel m)))/\∀k∈lost,k<sel.length:=by
 rcases h with rfl | ⟨h1,h2,h3⟩
 .exact ⟨⟨λp _=>p.2.avoid_nil,λi o _ _=>o.avoid_nil⟩,λk hk=>by cases hk⟩
 .exact ⟨⟨List.all_eq_true.1 h2,λi o hi ho=>h3.get i o (by rwa [Nat.zero_add]) ho⟩,λk hk=>by simpa [Nat.blt_eq] using List.all_eq_true.1 h1 k hk⟩
section
variable {P:Program} {s0:An} {n:Nat} {ops:Array Oper} {Q:Exit->AS->Prop} {rest:List Oper} {fr:List (Nat×AV)} {hp:List Ow}
theorem A3n{o:Oper}{f:Operand}{args:List Operand}{tys:Array TypeId}{fid:FuncId}{caps:List Nat}{us:List AV}{hpS:List Ow}{lost:List Nat}{QC:AV->List Ow->Prop}(hop:o.op = .call { callee:=.value f,args:=args.toArray,argTypes:=tys })(sel:List Nat){m:Nat}(hm:Fk hp=some m)(hf:PK (BO sel m) hpS.length (AS.arg ⟨fr,hp⟩ f) fid caps)
  (hc:Con P fid (us++caps.map (.ptr · 0)) hpS lost QC) (hlo:LostOk sel lost m fr hp) (ha:ArgsC hp (BO sel m) hpS.length (AS.arg ⟨fr,hp⟩) args us) (hnd:sel.Nodup) (hsel:SelR (BO sel m) hp hpS.length sel hpS) (hcap:∀i∈caps,∃T cells,hpS[i]? = some (.var T cells)) (hd:Sn o.dst n=true)
  (next:∀r hp',QC r hp'->∃r' H1 H',AVRen (BO sel m) r r'/\SetR (BO sel m) hp sel hp' H1/\AppR (BO sel m) H1 (Mb sel.length hp') H'/\AWl P s0 n ops Q rest (AS.put ⟨fr,H'⟩ o.dst r')) :
  ∀(s:GS) (ρ:Nat->Value) (a:Act),StI s0 n ⟨fr,hp⟩ a s ρ->∀K:Act->World->Prop,(∀σ' a' w',AWl P s0 n ops Q rest σ'->St s0 n σ' a' w'->K a' w')->o.wp P a s.w K (FC s0 n Q):=by
 intro s ρ a hst K hK
 obtain rfl:=Ea hm
 obtain ⟨hl1,hl2⟩:=hsel.get
 obtain ⟨ha1,ha2⟩:=ha.get
 have hρc:∀i,i<hpS.length->(λk=>ρ (BO sel hp.length k)) i=ρ (BO sel hp.length i):=λ_ _=>rfl
 have hpos:∀k o',hpS[k]? = some o'->hp[BO sel hp.length k]? = some (o'.ren (BO sel hp.length)):=λk o' hk=>by
  rw [DH (by have:=CL hk;omega)]
  exact (hl2 k o' hk).1
 have hhp:HpOk 0 (λk=>ρ (BO sel hp.length k)) s hpS:=λk o' hk=>(hst.hp _ _ (hpos k o' hk)).un (hl2 k o' hk).2 (CL hk) hρc
 have hsep:Sep s (λk=>ρ (BO sel hp.length k)) hpS:=λi j o1 o2 hij hi hj b hb hb'=>by
  refine hst.sep _ _ _ _ (λe=>hij ?_) (hpos i o1 hi) (hpos j o2 hj) b (Ld.2 hb) (Ld.2 hb')
  have h1:=CL hi
  have h2:=CL hj
  rw [DH (by omega),DH (by omega),List.getD_eq_getElem?_getD,List.getElem?_eq_getElem (by omega),List.getD_eq_getElem?_getD,List.getElem?_eq_getElem (by omega)] at e
  exact Nt hnd _ _ e
 have hargs:∀(k:Nat) av,us[k]? = some av->AVr hpS.length (λk=>ρ (BO sel hp.length k)) s av ((args.map a.eval).getD k undef):=λk av hk=>by
  obtain ⟨x,h1,h2⟩:=ha2 k av hk
  have h3:=hst.arg x
  have h4:(args.map a.eval).getD k undef=a.eval x:=by rw [List.getD_eq_getElem?_getD,List.getElem?_map,h1];rfl
  rw [h4]
  rcases h2 with ⟨d,d',rfl,h5,h6⟩ | ⟨h5,h6⟩
  .exact h6 s _ (BW hst.hp h3 h5)
  .rw [h5] at h3
   exact h3.un h6 hρc
 have hcall:(execOp a.eval o).run P s.w = .ok (.enter fid (args.map a.eval++caps.map λi=>ρ (BO sel hp.length i)).toArray) s.w:=by
  have h3:=hst.arg f
  rcases hf with ⟨h4,rfl⟩ | ⟨h4,h5⟩
  .rw [h4] at h3
   have e1:a.eval f = .func (.func fid) #[] #[]:=h3
   simp [execOp,hop,resolve,e1,Deferred.ofValue,invoke,hc.1]
  .rw [h4] at h3
   have e1:a.eval f = .func (.func fid) #[] ((caps.map (BO sel hp.length)).map ρ).toArray:=h3.2
   rw [List.map_map] at e1
   simp [execOp,hop,resolve,e1,Deferred.ofValue,invoke,hc.1]
 have hvs:∀(k:Nat) av,(us++caps.map (AV.ptr · 0))[k]? = some av->AVr hpS.length (λk=>ρ (BO sel hp.length k)) s av ((args.map a.eval++caps.map λi=>ρ (BO sel hp.length i)).getD k undef):=λk av hk=>by
  rw [List.getElem?_append] at hk
  rw [List.getD_eq_getElem?_getD,List.getElem?_append]
  split at hk
  .rename_i hlt
   rw [if_pos (by simp;omega),<-List.getD_eq_getElem?_getD]
   exact hargs k av hk
  .rename_i hge
   rw [if_neg (by simp;omega),List.getElem?_map]
   rw [List.getElem?_map] at hk
   simp only [List.length_map,ha1]
   cases hi:caps[k-us.length]? with
   | none=>rw [hi] at hk;cases hk
   | some i=>
    rw [hi] at hk
    cases hk
    obtain ⟨T,cells,h1⟩:=hcap i (List.mem_of_getElem? hi)
    obtain ⟨b,cs,h2,_⟩:=hhp i _ h1
    exact ⟨CL h1,b,h2,h2⟩
 have h4:=hc.2 s (λk=>ρ (BO sel hp.length k)) (args.map a.eval++caps.map λi=>ρ (BO sel hp.length i)) hst.ok hhp hsep (by simp [ha1]) hvs
 have hns:Cj o.op=true:=by rw [hop];rfl
 refine RegG.opStep_wp (R:=λv s'=>∃(ρ':Nat->Value) (r:AV) (hp':List Ow),QC r hp'/\AVr hp'.length ρ' s' r v/\Aft s (λk=>ρ (BO sel hp.length k)) hpS lost s' ρ' hp') hns (λ_ _=>rfl) ?_ ?_
 .unfold RegG.OpStep
  rw [hcall]
  exact h4.mono λe w' ⟨v,he,s',ρ',r,hp',h5,h6,h7,h8⟩=>⟨v,he,s',h6,ρ',r,hp',h5,h7,h8⟩
 .rintro v s' ⟨ρ',r,hp',h5,h6,h7⟩
  obtain ⟨r',H1,H',h8,h9,h10,h11⟩:=next r hp' h5
  replace h8:r'=r.ren (BO sel hp.length):=h8
  rw [AppR,Ra] at h10
  subst h8;subst h10
  obtain ⟨ρ'',h12,h13⟩:=A20 (sel:=sel) (hpS:=hpS) hlo.get.1 hlo.get.2 hst hnd hsel h7 h9
  exact hK _ _ _ h11 ⟨s',ρ'',rfl,h12.put (GS.Le.refl s') (FZ hd) (h13 r v h6)⟩
theorem A2q{ty:TypeId}{ps:String}{af:Array Edge}{t:Nat}{f:Operand}{args:List Operand}{tys:Array TypeId}{fid:FuncId}{all:List AV}{hpS:List Ow}{lost:List Nat}{QC:AV->List Ow->Prop}(sel:List Nat)(caps:List Nat){m:Nat}(hc:Con P fid all hpS lost QC)(hlo:LostOk sel lost m fr hp)(hall:all=all.take args.length++caps.map (.ptr · 0))(hm:Fk hp=some m)(hf:PK (BO sel m) hpS.length (AS.arg ⟨fr,hp⟩ f) fid caps)
  (ha:ArgsC hp (BO sel m) hpS.length (AS.arg ⟨fr,hp⟩) args (all.take args.length)) (hnd:sel.Nodup) (hsel:SelR (BO sel m) hp hpS.length sel hpS) (hcap:CapsOk hpS caps) (hd:Nat.blt t n=true)
  (next:∀r hp',QC r hp'->∃r' H1 H',AVRen (BO sel m) r r'/\SetR (BO sel m) hp sel hp' H1/\AppR (BO sel m) H1 (Mb sel.length hp') H'/\AWl P s0 n ops Q rest ⟨(t,r')::fr,H'⟩) :
  AWl P s0 n ops Q (⟨some t,.call { callee:=.value f,args:=args.toArray,argTypes:=tys },ty,ps,af,none⟩::rest) ⟨fr,hp⟩:=by
 rw [hall] at hc
 exact AWl.step rfl (A3n rfl sel hm hf hc hlo ha hnd hsel hcap.get hd next)
end
end Go.Proofs.YtialdhnijjnpaaaGreat
set_option linter.unusedSimpArgs false
set_option linter.unusedVariables false
namespace Go.Proofs.YtialdhnijjnpaaaGreat
open Go.RowKit
section
variable {P:Program} {s0:An} {n:Nat} {ops:Array Oper} {Q:Exit->AS->Prop} {rest:List Oper} {fr:List (Nat×AV)} {hp:List Ow}
theorem Kk{ty:TypeId}{ps:String}{af:Array Edge}{t:Nat}{f:Operand}{args:List Operand}{tys:Array TypeId}{fid:FuncId}{all:List AV}{hpS:List Ow}{lost:List Nat}{QC:AV->List Ow->Prop}(sel:List Nat)(caps:List Nat){m:Nat}(hc:Con P fid all hpS lost QC)
  (next:∀r hp',QC r hp'->∃r' H1 H',AVRen (BO sel m) r r'/\SetR (BO sel m) hp sel hp' H1/\AppR (BO sel m) H1 (Mb sel.length hp') H'/\AWl P s0 n ops Q rest ⟨(t,r')::fr,H'⟩)
  (hm:Fk hp=some m:=by exact rfl) (hall:all=all.take args.length++caps.map (.ptr · 0):=by exact rfl) (hlo:LostOk sel lost m fr hp:=by first | exact Or.inl rfl | exact Or.inr ⟨by decide,rfl,by repeat (first | exact AvoidR.nil | refine Si rfl ?_ | refine AvoidR.dead ?_ | refine Uc ?_ | refine AvoidR.obj ?_ | refine Sg ?_ | refine Sh rfl ?_ | refine AvoidR.pin rfl ?_)⟩) (hf:PK (BO sel m) hpS.length (AS.arg ⟨fr,hp⟩ f) fid caps:=by first | exact .inl ⟨rfl,rfl⟩ | exact .inr ⟨rfl,rfl⟩)
  (ha:ArgsC hp (BO sel m) hpS.length (AS.arg ⟨fr,hp⟩) args (all.take args.length):=by repeat (first | exact ArgsC.nil | refine ArgsC.d rfl (D.le.refl _) ?_ | refine A0M rfl rfl ?_)) (hnd:sel.Nodup:=by decide) (hsel:SelR (BO sel m) hp hpS.length sel hpS:=by repeat (first | exact SelR.nil | refine SelR.var rfl ?_ | refine SelR.obj rfl ?_ | refine A0g rfl ?_ | refine Xo rfl rfl rfl ?_)) (hcap:CapsOk hpS caps:=by repeat (first | exact trivial | refine ⟨⟨_,_,rfl⟩,?_⟩)) (hd:Nat.blt t n=true:=by exact rfl) :
  AWl P s0 n ops Q (⟨some t,.call { callee:=.value f,args:=args.toArray,argTypes:=tys },ty,ps,af,none⟩::rest) ⟨fr,hp⟩:=A2q sel caps hc hlo hall hm hf ha hnd hsel hcap hd next
theorem Kr{t m:Nat}{sel:List Nat}{r r':AV}{hp' H1 H':List Ow}(h:AWl P s0 n ops Q rest ⟨(t,r')::fr,H'⟩)(h1:AVRen (BO sel m) r r':=by first | exact AVRen.d | exact AVRen.own rfl | exact AVRen.ptr rfl | exact AVRen.fn rfl)(h2:SetR (BO sel m) hp sel hp' H1:=by repeat (first | exact SetR.nil | (apply SetR.cons;(first | exact OwRen.dead | exact IB | exact OwRen.obj | exact Ob | exact Mz rfl);exact rfl)))(h3:AppR (BO sel m) H1 (Mb sel.length hp') H':=by repeat (first | exact AppR.nil | (apply AppR.cons;(first | exact OwRen.dead | exact IB | exact OwRen.obj | exact Ob | exact Mz rfl);exact rfl))):∃r' H1 H',AVRen (BO sel m) r r'/\SetR (BO sel m) hp sel hp' H1/\AppR (BO sel m) H1 (Mb sel.length hp') H'/\AWl P s0 n ops Q rest ⟨(t,r')::fr,H'⟩:=⟨_,_,_,h1,h2,h3,h⟩
end
open Go.ChangeMaps (setBlock)
abbrev KD:=(Nat->Int)×D
instance A4Q:Inhabited KD:=⟨(λ_=>0,Cp)⟩
def GK(E:List KD)(i:Nat):KD:=E.getD i default
def QI(p:KD):Value:=.agg (c8 p.1)
structure MapK(s:GS)(b:Nat)(E:List KD):Prop where
 run:∃(es:Array MapEntry) (clock:Nat),s.w.heap[b]? = some (.map es clock)/\es.toList.map (·.key)=E.map QI/\(∀i e,es.toList[i]? = some e->(GK E i).2.rel s e.val)/\(∀x∈es.toList,x.born<clock)/\(es.toList.map (·.born)).Nodup/\E.Pairwise λs t=>¬Eqv s.1 t.1
def DQ(E:List KD):OD where
 rel s v:=∃b,v = .map (some b)/\MapK s b E
 blk _ v b:=v = .map (some b)
 lt:=λ⟨b,h1,⟨es,clock,h2,_⟩⟩ h3=>by
  rw [h1] at h3
  cases h3
  exact AG h2
 keep:=λ⟨b,h1,⟨es,clock,h2,h3,h4,h5⟩⟩ hc hb=>⟨⟨b,h1,⟨es,clock,(hb b h1).1.trans h2,h3,λi e hi=>(GK _ i).2.st (h4 i e hi) hc,h5⟩⟩,λ_ h=>h⟩
theorem Iu(a:Nat->Int)(W:World):∀(es:List MapEntry) (E:List KD) (k:Nat),es.map (·.key)=E.map QI->(∀t∈E,¬Eqv a t.1)->(Instr.findAsking 55 (.agg (c8 a)) es k).run Tryz.prog W = .ok none W
 | [],_,_,_,_=>by simp [Instr.findAsking]
 | e::es,[],_,h,_=>by simp at h
 | e::es,t::E,k,h,hn=>by
  simp only [List.map_cons,List.cons.injEq] at h
  have h1:(Op.equal 55 (.agg (c8 a)) (QI t)).run Tryz.prog W = .ok (HA a t.1) W:=DN a t.1 W
  simp only [Instr.findAsking,Sem.run_bind,h.1,h1,ZQ (hn t (by simp)),Result.andThen_ok,Bool.false_eq_true,if_false]
  exact Iu a W es E (k+1) h.2 λu hu=>hn u (by simp [hu])
theorem It(a:Nat->Int)(W:World):∀(es:List MapEntry) (E:List KD) (k i:Nat),es.map (·.key)=E.map QI->i<E.length->Eqv a (GK E i).1->(∀j,j<i->¬Eqv a (GK E j).1)->∃e,es[i]? = some e/\(Instr.findAsking 55 (.agg (c8 a)) es k).run Tryz.prog W = .ok (some (k+i,e.val)) W
 | [],E,_,i,h,hi,_,_=>by
  have:E=[]:=by cases E<;>simp at h;rfl
  subst this
  simp at hi
 | e::es,[],_,_,h,_,_,_=>by simp at h
 | e::es,t::E,k,0,h,hi,he,hn=>by
  simp only [List.map_cons,List.cons.injEq] at h
  refine ⟨e,rfl,?_⟩
  have he:Eqv a t.1:=he
  have h1:(Op.equal 55 (.agg (c8 a)) (QI t)).run Tryz.prog W = .ok (HA a t.1) W:=DN a t.1 W
  simp only [Instr.findAsking,Sem.run_bind,h.1,h1,Da.2 he,Result.andThen_ok,if_true]
  rfl
 | e::es,t::E,k,i+1,h,hi,he,hn=>by
  simp only [List.map_cons,List.cons.injEq] at h
  obtain ⟨x,h1,h2⟩:=It a W es E (k+1) i h.2 (by simpa using hi) he (λj hj=>hn (j+1) (by omega))
  refine ⟨x,by simpa using h1,?_⟩
  have h0:¬Eqv a t.1:=hn 0 (by omega)
  have h3:(Op.equal 55 (.agg (c8 a)) (QI t)).run Tryz.prog W = .ok (HA a t.1) W:=DN a t.1 W
  simp only [Instr.findAsking,Sem.run_bind,h.1,h3,ZQ h0,Result.andThen_ok,Bool.false_eq_true,if_false]
  rw [h2,show k+1+i=k+(i+1) by omega]
inductive Hit(E:List KD)(a:Nat->Int):Option Nat->Prop
 | no (h:∀t∈E,¬Eqv a t.1):Hit E a none
 | yes {i:Nat} (hi:i<E.length) (he:Eqv a (GK E i).1) (hn:∀j,j<i->¬Eqv a (GK E j).1):Hit E a (some i)
theorem ZL(E:List KD)(a:Nat->Int):(∀t∈E,¬Eqv a t.1)\/∃i,i<E.length/\Eqv a (GK E i).1/\∀j,j<i->¬Eqv a (GK E j).1:=by
 induction E with
 | nil=>exact .inl λt h=>by cases h
 | cons t E ih=>
  by_cases h0:Eqv a t.1
  .exact .inr ⟨0,by simp,h0,λj hj=>by omega⟩
  .rcases ih with h1 | ⟨i,h1,h2,h3⟩
   .exact .inl λu hu=>by
     rcases List.mem_cons.1 hu with rfl | hu
     .exact h0
     .exact h1 u hu
   .refine .inr ⟨i+1, by simpa using h1, h2, λj hj=>?_⟩
    cases j with
    | zero=>exact h0
    | succ j=>exact h3 j (by omega)
section
variable {P:Program} {hp:List Ow} {o:Oper} {arg:Operand->AV}
end
theorem MapK.look_none{s:GS}{b:Nat}{E:List KD}(h:MapK s b E){mt vt:TypeId}{z:Value}(hu:Tryz.prog.underlying mt=some (.map 55 vt))(hz:∀w,(zeroValue vt).run Tryz.prog w = .ok z w){a:Nat->Int}(hn:∀t∈E,¬Eqv a t.1)(ok:Bool) :
  (Instr.lookup mt (.map (some b)) (.agg (c8 a)) ok).run Tryz.prog s.w = .ok (if ok then .tuple #[z,.bool false] else z) s.w:=by
 obtain ⟨es,clock,h1,h2,_⟩:=h
 cases ok<;>simp only [Instr.lookup,Sem.run_bind,run_underlying hu,Result.andThen_ok,MapKept.run_getObj_map h1,EA,Fm,Iu a s.w es.toList E 0 h2 hn,hz,Sem.run_pure,if_true,Bool.false_eq_true,if_false]
theorem MapK.look_some{s:GS}{b:Nat}{E:List KD}(h:MapK s b E){mt vt:TypeId}(hu:Tryz.prog.underlying mt=some (.map 55 vt)){a:Nat->Int}{i:Nat}(hi:i<E.length)(he:Eqv a (GK E i).1)(hn:∀j,j<i->¬Eqv a (GK E j).1)(ok:Bool) :
  ∃v,(GK E i).2.rel s v/\(Instr.lookup mt (.map (some b)) (.agg (c8 a)) ok).run Tryz.prog s.w = .ok (if ok then .tuple #[v,.bool true] else v) s.w:=by
 obtain ⟨es,clock,h1,h2,h3,_⟩:=h
 obtain ⟨e,h4,h5⟩:=It a s.w es.toList E 0 i h2 hi he hn
 refine ⟨e.val,h3 i e h4,?_⟩
 cases ok<;>simp only [Instr.lookup,Sem.run_bind,run_underlying hu,Result.andThen_ok,MapKept.run_getObj_map h1,EA,Fm,h5,Sem.run_pure,if_true,Bool.false_eq_true,if_false]
theorem KK{base:Nat}{ρ:Nat->Value}{s:GS}{hp:List Ow}{id:Nat}{E:List KD}{v:Value}(hh:HpOk base ρ s hp)(h:AVr hp.length ρ s (.own id) v)(hid:hp[id]? = some (.obj (DQ E))):∃b,v = .map (some b)/\MapK s b E:=by
 obtain ⟨b,h1,h2⟩:=hh id _ hid
 exact ⟨b,h.2.trans h1,h2⟩
section
variable {hp:List Ow} {o:Oper} {arg:Operand->AV}
theorem TG{P:Program}{f:FuncId}{caps:List Operand}{ids:List Nat}(hop:o.op = .makeFunc (.func f) #[] caps.toArray)(h:caps.map arg=ids.map (AV.ptr · 0)):Quiet P hp o arg (.fn f ids):=by
 refine ⟨λbase s ρ ev hok hbs hhp hv=>?_⟩
 have h1:∀(l:List Operand) (js:List Nat),(∀x∈l,x∈caps)->l.map arg=js.map (AV.ptr · 0)->(∀i∈js,i<hp.length)/\l.map ev=js.map ρ:=by
  intro l
  induction l with
  | nil=>intro js _ h;cases js with
   | nil=>exact ⟨λi hi=>by (cases hi),rfl⟩
   | cons=>simp at h
  | cons x l ih=>intro js hm h;cases js with
   | nil=>simp at h
   | cons j js=>
    simp only [List.map_cons,List.cons.injEq] at h
    obtain ⟨h2,h3⟩:=ih js (λy hy=>hm y (List.mem_cons_of_mem _ hy)) h.2
    have h4:=hv x (by rw [hop];simp [Op.operands,hm x List.mem_cons_self])
    rw [h.1] at h4
    obtain ⟨h5,b,h6,h7⟩:=h4
    refine ⟨λi hi=>?_,?_⟩
    .rcases List.mem_cons.1 hi with rfl | hi
     .exact h5
     .exact h2 i hi
    .rw [List.map_cons,List.map_cons,h3,h7,h6]
 obtain ⟨h2,h3⟩:=h1 caps ids (λ_ h=>h) h
 refine Bk (v:=.func (.func f) #[] (ids.map ρ).toArray) (by simp [execOp,hop,Instr.makeFunc,h3]) ⟨GS.Le.refl s,h2,rfl⟩
end
def Im(E:List KD)(a:Nat->Int)(x:D):Option Nat->List KD
 | none=>E++[(a,x)]
 | some i=>E.set i (a,x)
def GS.blk'(s:GS)(b:Nat)(o:Obj):GS:=⟨s.S,s.tag,setBlock s.w b o⟩
theorem IC{s:GS}{b:Nat}{es es':Array MapEntry}{c c':Nat}(h:s.w.heap[b]? = some (.map es c)):GS.Chg s (s.blk' b (.map es' c')):=by
 have hs:(setBlock s.w b (.map es' c')).heap.size=s.w.heap.size:=by simp [setBlock]
 refine ⟨by show _<=(setBlock s.w b _).heap.size;omega,λ_ _ h=>h,λg cs T fz hg=>⟨cs,fz,?_,λ_ _=>rfl⟩⟩
 have hne:g≠b:=λe=>by subst e;rw [h] at hg;cases hg
 show (setBlock s.w b _).heap[g]? = _
 simp only [setBlock]
 rw [Array.getElem?_setIfInBounds_ne (λe=>hne e.symm)]
 exact hg
theorem MapK.put{s:GS}{b:Nat}{E:List KD}(h:MapK s b E){mt vt:TypeId}(hu:Tryz.prog.underlying mt=some (.map 55 vt)){a:Nat->Int}{q:Option Nat}(hq:Hit E a q){v:Value}{x:D}(hv:x.rel s v) :
  ∃es c es' c',s.w.heap[b]? = some (.map es c)/\(Instr.mapUpdate mt (.map (some b)) (.agg (c8 a)) v).run Tryz.prog s.w = .ok () (setBlock s.w b (.map es' c'))/\MapK (s.blk' b (.map es' c')) b (Im E a x q):=by
 obtain ⟨es,clock,h1,h2,h3,h4,h5,h6⟩:=h
 have hlen:es.size=E.length:=by have:=congrArg List.length h2;simpa using this
 cases hq with
 | no hn=>
  have hc:=IC (es':=es.push { key:=.agg (c8 a),val:=v,born:=clock }) (c':=clock+1) h1
  refine ⟨es,clock,es.push { key:=.agg (c8 a),val:=v,born:=clock },clock+1,h1,?_,⟨_,_,EP h1,?_,λi e hi=>?_,λx hx=>?_,?_,?_⟩⟩
  .simp only [Instr.mapUpdate,Sem.run_bind,run_underlying hu,Result.andThen_ok,MapKept.run_getObj_map h1,EA,Fm,Iu a s.w es.toList E 0 h2 hn,MapKept.run_setObj_map _ h1]
   rfl
  .simp [h2,QI,Im]
  .rw [Array.toList_push] at hi
   by_cases e1:i<es.size
   .rw [List.getElem?_append_left (by simpa using e1)] at hi
    have:GK (Im E a x none) i=GK E i:=by
     unfold GK Im
     rw [List.getD_eq_getElem?_getD,List.getElem?_append_left (by omega),<-List.getD_eq_getElem?_getD]
    rw [this]
    exact (GK E i).2.st (h3 i e hi) hc
   .rw [List.getElem?_append_right (by simpa using e1)] at hi
    have hi0:i-es.toList.length=0:=by
     rcases Nat.eq_zero_or_pos (i-es.toList.length) with h | h
     .exact h
     .rw [List.getElem?_eq_none (by simp;simp at h;omega)] at hi;cases hi
    rw [hi0] at hi
    have he:e={ key:=.agg (c8 a),val:=v,born:=clock }:=by simpa using hi.symm
    have e2:i=E.length:=by simp at hi0 e1;omega
    have:GK (Im E a x none) i=(a,x):=by unfold GK Im;rw [e2];simp
    rw [he,this]
    exact x.st hv hc
  .rw [Array.toList_push] at hx
   rcases List.mem_append.1 hx with hx | hx
   .have:=h4 _ hx;omega
   .rw [List.mem_singleton.1 hx]
    exact Nat.lt_succ_self _
  .rw [Array.toList_push,List.map_append,List.nodup_append]
   refine ⟨h5,by simp,λx hx y hy=>?_⟩
   obtain ⟨z,hz,rfl⟩:=List.mem_map.1 hx
   have h7:=h4 z hz
   have:y=clock:=by simpa using hy
   omega
  .show (E++[(a,x)]).Pairwise _
   rw [List.pairwise_append]
   refine ⟨h6,by simp,λs hs t ht=>?_⟩
   have:t=(a,x):=by simpa using ht
   rw [this]
   exact λe=>hn s hs e.symm
 | @yes i hi he hn=>
  obtain ⟨e,h7,h8⟩:=It a s.w es.toList E 0 i h2 hi he hn
  have hke:e.key = .agg (c8 (GK E i).1):=by
   have h9:(es.toList.map (·.key))[i]? = some e.key:=by rw [List.getElem?_map,h7];rfl
   rw [h2,List.getElem?_map] at h9
   have h10:E[i]? = some (GK E i):=by unfold GK;rw [List.getD_eq_getElem?_getD,List.getElem?_eq_getElem hi];rfl
   rw [h10] at h9
   simp only [Option.map_some,Option.some.injEq] at h9
   rw [<-h9];rfl
  have hei:es[i]? = some e:=by rw [<-Array.getElem?_toList];exact h7
  have hc:=IC (es':=es.modify i λx=>{ x with key:=.agg (c8 a),val:=v }) (c':=clock) h1
  have hst:(Instr.keyThatStays (((es[i]?).map (·.key)).getD (.agg (c8 a))) (.agg (c8 a))).run Tryz.prog s.w = .ok (.agg (c8 a)) s.w:=by
   rw [hei]
   simp only [Option.map_some,Option.getD_some,hke,Instr.keyThatStays,PY _ _ he.symm,if_true]
   rfl
  have hmod:(es.modify i λx=>{ x with key:=.agg (c8 a),val:=v }).toList=es.toList.set i { key:=.agg (c8 a),val:=v,born:=e.born }:=by
   apply List.ext_getElem?
   intro k
   rw [Array.getElem?_toList,Array.getElem?_modify,List.getElem?_set]
   by_cases hki:i=k
   .subst hki
    rw [if_pos rfl,if_pos rfl,if_pos (by simpa using (by omega:i<es.size)),hei]
    rfl
   .rw [if_neg hki,if_neg hki,Array.getElem?_toList]
  refine ⟨es,clock,es.modify i λx=>{ x with key:=.agg (c8 a),val:=v },clock,h1,?_,⟨_,_,EP h1,?_,λk y hk'=>?_,λy hx=>?_,?_,?_⟩⟩
  .rw [Nat.zero_add] at h8
   simp only [Instr.mapUpdate,Sem.run_bind,run_underlying hu,Result.andThen_ok,MapKept.run_getObj_map h1,EA,Fm,h8,hst,MapKept.run_setObj_map _ h1]
   rfl
  .show _=(E.set i (a,x)).map QI
   rw [hmod,List.map_set,h2,List.map_set]
   rfl
  .rw [hmod,List.getElem?_set] at hk'
   by_cases hki:i=k
   .subst hki
    rw [if_pos rfl,if_pos (by simpa using (by omega:i<es.size))] at hk'
    cases hk'
    have:GK (Im E a x (some i)) i=(a,x):=by unfold GK Im;simp [hi]
    rw [this]
    exact x.st hv hc
   .rw [if_neg hki] at hk'
    have:GK (Im E a x (some i)) k=GK E k:=by unfold GK Im;simp [List.getElem?_set,hki]
    rw [this]
    exact (GK E k).2.st (h3 k y hk') hc
  .rw [hmod] at hx
   rcases List.mem_or_eq_of_mem_set hx with hx | rfl
   .exact h4 y hx
   .exact h4 e (List.mem_of_getElem? h7)
  .rw [hmod,List.map_set]
   have:(es.toList.map (·.born)).set i e.born=es.toList.map (·.born):=by
    apply List.ext_getElem?
    intro k
    rw [List.getElem?_set]
    by_cases hki:i=k
    .subst hki
     rw [if_pos rfl,if_pos (by simpa using (by omega:i<es.size)),List.getElem?_map,h7]
     rfl
    .rw [if_neg hki]
   rw [this]
   exact h5
  .show (E.set i (a,x)).Pairwise _
   rw [List.pairwise_iff_getElem] at h6 ⊢
   intro j k hj hk2 hjk
   simp only [List.length_set] at hj hk2
   have g1 : ∀ z (hz : z < E.length), Eqv ((E.set i (a, x))[z]'(by simpa using hz)).1 (E[z]).1 := fun z hz => by
    rw [List.getElem_set]
    split
    .rename_i e1
     subst e1
     have:GK E i=E[i]:=by unfold GK;simp [hi]
     rw [<-this];exact he
    .exact Eqv.refl _
   exact λe2=>h6 j k hj hk2 hjk (((g1 j hj).symm.trans e2).trans (g1 k hk2))
section
variable {s0:An} {n:Nat} {ops:Array Oper} {Q:Exit->AS->Prop} {rest:List Oper} {fr:List (Nat×AV)} {hp:List Ow} {ty:TypeId} {ps:String} {af:Array Edge} {gd:Option (Nat×Bool)} {dd:Option Tmp}
theorem map_set{o:Oper}{m x y:Operand}{mt vt:TypeId}{id nn b:Nat}{z:Value}{E:List KD}{a:Nat->Int}{d:D}{hp':List Ow}{q:Option Nat}(hop:o.op = .mapUpdate mt m x y)(hds:o.dst=none)(hm:AS.arg ⟨fr,hp⟩ m = .own id)(hid:hp[id]? = some (.obj (DQ E)))(hx:AS.arg ⟨fr,hp⟩ x = .d (Bb (AK a)))(hy:Ed hp (AS.arg ⟨fr,hp⟩ y)=some d)(hmt:Tab Tryz.prog mt (.map 55 vt) nn b z)(hq:Hit E a q)(hs:Do hp id (.obj (DQ (Im E a d q)))=some hp')
  (h:AWl Tryz.prog s0 n ops Q rest ⟨fr,hp'⟩):∀(s:GS) (ρ:Nat->Value) (a:Act),StI s0 n ⟨fr,hp⟩ a s ρ->∀K:Act->World->Prop,(∀σ' a' w',AWl Tryz.prog s0 n ops Q rest σ'->St s0 n σ' a' w'->K a' w')->o.wp Tryz.prog a s.w K (FC s0 n Q):=by
 intro s ρ act hst K hK
 have h1:=hst.arg m
 have h2:=hst.arg x
 have h3:=BW hst.hp (hst.arg y) hy
 rw [hm] at h1;rw [hx] at h2
 obtain ⟨g,e1,h4⟩:=KK hst.hp h1 hid
 have e2:=Cx h2
 obtain ⟨es,c,es',c',h5,h6,h7⟩:=h4.put hmt.und hq h3
 have hrun:(execOp act.eval o).run Tryz.prog s.w = .ok .skip (setBlock s.w g (.map es' c')):=by
  simp only [execOp,hop,e1,e2,Sem.run_bind,h6,Result.andThen_ok,Sem.run_pure]
 unfold Oper.wp
 rw [hrun]
 have hc:GS.Chg s (s.blk' g (.map es' c')):=IC h5
 have hsz:(setBlock s.w g (.map es' c')).heap.size=s.w.heap.size:=by simp [setBlock]
 have hfar:∀b,b≠g->(setBlock s.w g (.map es' c')).heap[b]? = s.w.heap[b]?:=λb hb=>by
  simp only [setBlock]
  rw [Array.getElem?_setIfInBounds_ne (λe=>hb e.symm)]
 have hρ:ρ id = .map (some g):=by rw [<-h1.2,e1]
 have hok : (s.blk' g (.map es' c')).Ok := GB hst.ok (fun _ _ h => h) (by show _ ≤ (setBlock s.w g _).heap.size; omega) (fun _ _ h => h) fun b ⟨cs, fz, hb⟩ => by
  have hne:b≠g:=λe=>by
   subst e
   replace hb:(setBlock s.w b (.map es' c')).heap[b]? = _:=hb
   rw [EP h5] at hb
   cases hb
  exact ⟨cs,fz,(hfar b hne).symm.trans hb⟩
 have hst':=hst.upd (s':=s.blk' g (.map es' c')) (ρ':=ρ) (f:=λx=>x) (o':=.obj (DQ (Im E a d q))) (hst.le.turn (hst.own id _ g hid hρ) rfl rfl rfl (λb _ hb=>⟨hfar b hb,λ_ h=>h⟩) hc (λ_ _=>rfl) λ_=>hok) hok hc hid (λb _ hb=>⟨hfar b λe=>hb (by rw [e];exact hρ),λ_=>Iff.rfl⟩) (λ_ _=>rfl) ⟨g,hρ,h7⟩ (λb hb=>.inl hb) λav v h=>h.chg hc
 rw [En,De,<-Cs hs] at hst'
 exact hK _ _ _ h (by rw [hds];exact ⟨_,ρ,rfl,hst'⟩)
theorem A1z{P:Program}{o:Oper}{mt:TypeId}{t k:Nat}{hp':List Ow}(hop:o.op = .makeMap mt none)(hdst:o.dst=some t)(hd:Nat.blt t n=true)(hk:Fk hp=some k)(hs:Dt hp (.obj (DQ []))=some hp')
  (h:AWl P s0 n ops Q rest ⟨(t,.own k)::fr,hp'⟩):∀(s:GS) (ρ:Nat->Value) (a:Act),StI s0 n ⟨fr,hp⟩ a s ρ->∀K:Act->World->Prop,(∀σ' a' w',AWl P s0 n ops Q rest σ'->St s0 n σ' a' w'->K a' w')->o.wp P a s.w K (FC s0 n Q):=by
 intro s ρ act hst K hK
 obtain rfl:=Ea hk
 rw [CI hs] at h
 have hrun:(execOp act.eval o).run P s.w = .ok (.value (.map (some s.w.heap.size))) (s.w.alloc (.map #[] 0)):=by
  simp only [execOp,hop,Option.map_none,Instr.makeMap,Sem.run_bind,Sem.run_pure,Result.andThen_ok]
  rfl
 unfold Oper.wp
 rw [hrun]
 have hE:Ext s.w (s.w.alloc (.map #[] 0)):=(Ext.refl _).alloc _
 let s1:GS:=⟨s.S,s.tag,s.w.alloc (.map #[] 0)⟩
 have hok:s.Ok->s1.Ok:=λh'=>⟨λb k hb=>Nat.lt_of_lt_of_le (h'.lt b k hb) hE.size,λb k ⟨cs,fz,hb⟩=>by
  replace hb:(s.w.alloc (.map #[] 0)).heap[b]? = _:=hb
  rcases Nat.lt_or_ge b s.w.heap.size with h1 | h1
  .exact h'.safe b k ⟨cs,fz,(Below.heap_alloc s.w _ b h1).symm.trans hb⟩
  .exfalso
   have h2:=AG hb
   have h3:b=s.w.heap.size:=by have h4:(s.w.alloc (.map #[] 0)).heap.size=s.w.heap.size+1:=Array.size_push ..;omega
   rw [h3,heap_alloc_new] at hb
   cases hb⟩
 have hl:GS.Le s s1:=⟨hE,λ_ _ h=>h,λ_ _ _ h=>h,λ_ _=>rfl,hok⟩
 have hfin := hst.new hl (dst := some t) (fun d hd' => by cases hd'; simpa [Nat.blt_eq] using hd) (v := .map (some s.w.heap.size)) (u := .map (some s.w.heap.size)) (r := .own hp.length) (ow := .obj (DQ [])) ⟨Nat.lt_succ_self _, by simp⟩
  (by
   show (DQ []).rel s1 (if hp.length=hp.length then Value.map (some s.w.heap.size) else ρ hp.length)
   rw [if_pos rfl]
   exact ⟨s.w.heap.size,rfl,⟨#[],0,heap_alloc_new s.w _,rfl,λi e h=>by simp at h,λx h=>by simp at h,by simp,List.Pairwise.nil⟩⟩) (λb hb=>by cases hb;exact Nat.le_refl _)
 exact hK _ _ _ h (by rw [hdst];exact ⟨s1,_,rfl,hfin⟩)
theorem A0Q{m x y:Operand}{mt vt:TypeId}{id nn b:Nat}{z:Value}{E:List KD}{a:Nat->Int}{d:D}{hp':List Ow}(q:Option Nat)(hq:Hit E a q)(hm:AS.arg ⟨fr,hp⟩ m = .own id)(hid:hp[id]? = some (.obj (DQ E)))(hx:AS.arg ⟨fr,hp⟩ x = .d (Bb (AK a)))(hy:Ed hp (AS.arg ⟨fr,hp⟩ y)=some d)(hmt:Tab Tryz.prog mt (.map 55 vt) nn b z)(hs:Do hp id (.obj (DQ (Im E a d q)))=some hp')
  (h:AWl Tryz.prog s0 n ops Q rest ⟨fr,hp'⟩):AWl Tryz.prog s0 n ops Q (⟨none,.mapUpdate mt m x y,ty,ps,af,none⟩::rest) ⟨fr,hp⟩:=AWl.step rfl (map_set rfl rfl hm hid hx hy hmt hq hs h)
theorem A0R{P:Program}{mt:TypeId}{t k:Nat}{hp':List Ow}(hd:Nat.blt t n=true)(hk:Fk hp=some k)(hs:Dt hp (.obj (DQ []))=some hp')(h:AWl P s0 n ops Q rest ⟨(t,.own k)::fr,hp'⟩):AWl P s0 n ops Q (⟨some t,.makeMap mt none,ty,ps,af,none⟩::rest) ⟨fr,hp⟩:=AWl.step rfl (A1z rfl rfl hd hk hs h)
theorem FW{P:Program}{arg:Operand->AV}{f:FuncId}{caps:List Operand}(ids:List Nat)(h:caps.map arg=ids.map (AV.ptr · 0)):Quiet P hp ⟨dd,.makeFunc (.func f) #[] caps.toArray,ty,ps,af,gd⟩ arg (.fn f ids):=TG rfl h
end
def DownR(id:Nat)(x:D):List Ow->List Ow->Prop
 | [],[]=>True
 | o::l,o'::l'=>o'=o.mapA (down id x)/\DownR id x l l'
 | _,_=>False
theorem DownR.eq{id:Nat}{x:D}:∀{l l':List Ow},DownR id x l l'->l'=l.map (Ow.mapA (down id x))
 | [],[],_=>rfl
 | [],_::_,h=>h.elim
 | _::_,[],h=>h.elim
 | o::l,o'::l',⟨h1,h2⟩=>by rw [List.map_cons,<-h1,DownR.eq h2]
section
variable {id:Nat} {x:D} {l l':List Ow}
theorem DownR.nil:DownR id x [] []:=trivial
theorem DownR.var{T:TypeId}{ds:List D}(h:DownR id x l l'):DownR id x (.var T (ds.map .d)::l) (.var T (ds.map .d)::l'):=⟨by simp only [Ow.mapA,DP (GW (id:=id) ds)],h⟩
theorem DownR.row{T sz:Nat}{r:List (List D)}(h:DownR id x l l'):DownR id x (.row T sz r::l) (.row T sz r::l'):=⟨rfl,h⟩
theorem DownR.obj{O:OD}(h:DownR id x l l'):DownR id x (.obj O::l) (.obj O::l'):=⟨rfl,h⟩
theorem DownR.dead(h:DownR id x l l'):DownR id x (.dead::l) (.dead::l'):=⟨rfl,h⟩
theorem DownR.pin{c:List (Value×AV)}(hc:Er id (c.map (·.2))=true)(h:DownR id x l l'):DownR id x (.pin c::l) (.pin c::l'):=⟨by simp only [Ow.mapA,Lz hc],h⟩
def Hk(id:Nat)(x:D):List AV->Option (List AV)
 | []=>some []
 | .own j::l=>match Hk id x l with
  | some r=>bif Nat.beq j id then some (.d x::r) else some (.own j::r)
  | none=>none
 | .d y::l=>match Hk id x l with
  | some r=>some (.d y::r)
  | none=>none
 | .ptr i off::l=>match Hk id x l with
  | some r=>some (.ptr i off::r)
  | none=>none
 | .fn f c::l=>match Hk id x l with
  | some r=>bif c.contains id then some (.d Cp::r) else some (.fn f c::r)
  | none=>none
theorem Rb:∀{c c':List AV},Hk id x c=some c'->c'=c.map (down id x)
 | [],c',h=>by cases h;rfl
 | av::c,c',h=>by
  have key:∃r',Hk id x c=some r'/\c'=down id x av::r':=by
   cases av with
   | d y=>unfold Hk at h;split at h<;>first | (cases h;done) | (rename_i r' h';cases h;exact ⟨r',h',rfl⟩)
   | ptr i o=>unfold Hk at h;split at h<;>first | (cases h;done) | (rename_i r' h';cases h;exact ⟨r',h',rfl⟩)
   | own j=>
    unfold Hk at h
    split at h
    .rename_i r' h'
     refine ⟨r',h',?_⟩
     cases hb:Nat.beq j id with
     | true=>rw [hb] at h;cases h;simp only [down,hb];rfl
     | false=>rw [hb] at h;cases h;simp only [down,hb];rfl
    .cases h
   | fn f cp=>
    unfold Hk at h
    split at h
    .rename_i r' h'
     refine ⟨r',h',?_⟩
     cases hb:cp.contains id with
     | true=>rw [hb] at h;cases h;simp only [down,hb];rfl
     | false=>rw [hb] at h;cases h;simp only [down,hb];rfl
    .cases h
  obtain ⟨r',h1,rfl⟩:=key
  rw [Rb h1]
  rfl
theorem TX{T:TypeId}{c c':List AV}(hc:Hk id x c=some c')(h:DownR id x l l'):DownR id x (.var T c::l) (.var T c'::l'):=⟨by rw [Rb hc];rfl,h⟩
end
section
variable {P:Program} {s0:An} {n:Nat} {ops:Array Oper} {Q:Exit->AS->Prop} {rest:List Oper} {fr:List (Nat×AV)} {hp:List Ow} {ty:TypeId} {ps:String} {af:Array Edge}
theorem Jo{m id:Nat}{ρ:Nat->Value}{s s':GS}{v':Value}{x:D}(hold:x.rel s (ρ id))(hc:GS.Chg s s')(hnp:∀a,ρ id ≠ .pointer a):∀av v,AVr m ρ s av v->AVr m (λi=>if i=id then v' else ρ i) s' (down id x av) v:=by
 intro av v hav
 cases av with
 | d x=>exact x.st hav hc
 | ptr i off=>
  obtain ⟨p1,bb,p2,p3⟩:=hav
  refine ⟨p1,bb,?_,p3⟩
  show (if i=id then v' else ρ i)=_
  by_cases e:i=id
  .subst e;exact absurd p2 (hnp _)
  .rw [if_neg e];exact p2
 | own j=>
  obtain ⟨p1,p2⟩:=hav
  show AVr m _ s' (bif Nat.beq j id then .d x else .own j) v
  cases hb:Nat.beq j id with
  | true=>
   have e:j=id:=Nat.eq_of_beq_eq_true hb
   subst e
   rw [p2]
   exact x.st hold hc
  | false=>
   have e:j≠id:=Nat.ne_of_beq_eq_false hb
   exact ⟨p1,p2.trans (if_neg e).symm⟩
 | fn f caps=>
  obtain ⟨p1,p2⟩:=hav
  show AVr m _ s' (bif caps.contains id then .d Cp else .fn f caps) v
  cases hb:caps.contains id with
  | true=>trivial
  | false=>
   have hn:id∉caps:=λh=>by rw [List.contains_iff_mem.2 h] at hb;cases hb
   exact ⟨p1,by rw [p2,List.map_congr_left λi hi=>(if_neg λe=>hn (by rw [<-e];exact hi):(if i=id then v' else ρ i)=ρ i)]⟩
theorem A1d{o:Oper}{t E:TypeId}{len nn b n' b' e:Nat}{z z':Value}{d:TypeDesc}{parts:List (Nat×Operand)}{r:List (Nat×List D)}{ds:List D}{T0 sz0:Nat}{old:List (List D)}{fr':List (Nat×AV)}{hd' hp':List Ow}(id:Nat)(hop:o.op = .buildSlice t len parts.toArray)(hdst:o.dst=some e)(ht:Tab P t (.slice E) nn b z)(he:Tab P E d n' b' z')(hlen:0<len)(hn:0<n')(hz:z'.cells.size=n')(h24:len*n'<=16777216)(h1:one1 z'.cells.toList=true)(hr:PartsA hp (AS.arg ⟨fr,hp⟩) parts r)(hf:EC (λi=>some (i*n',n')) (List.replicate (len*n') Cp) r=some ds)(hE32:E≠136)
  (hd:Nat.blt e n=true) (hh:hp[id]? = some (.row T0 sz0 old)) (hfr:EV id (slD T0 sz0 old) fr=some fr') (hpl:DownR id (slD T0 sz0 old) hp hd') (hs:Do hd' id (.row E n' (Eh n' len ds))=some hp') (h:AWl P s0 n ops Q rest ⟨(e,.own id)::fr',hp'⟩) :
  ∀(s:GS) (ρ:Nat->Value) (a:Act),StI s0 n ⟨fr,hp⟩ a s ρ->∀K:Act->World->Prop,(∀σ' a' w',AWl P s0 n ops Q rest σ'->St s0 n σ' a' w'->K a' w')->o.wp P a s.w K (FC s0 n Q):=by
 intro s ρ a hst K hK
 rw [Gk hfr,Cs hs,hpl.eq] at h
 have h2:=PartsA.rel (ev:=a.eval) hst.hp hr λp _=>hst.arg p.2
 have hz0:FJ s ((Array.range (len*n')).map (λj=>z'.cells[j%z'.cells.size]!)) (List.replicate (len*n') Cp):=by
  refine ⟨by simp,λk hk=>?_⟩
  simp at hk
  have hlt:k%z'.cells.size<z'.cells.size:=Nat.mod_lt _ (by omega)
  refine ⟨z'.cells[k % z'.cells.size]!, by simp [hk], List.all_eq_true.1 h1 _ (by
   have e:z'.cells[k%z'.cells.size]! = z'.cells[k%z'.cells.size]'hlt:=by simp [hlt]
   rw [e]
   simp),?_⟩
  have:BG (List.replicate (len*n') Cp) k=Cp:=by simp [BG,hk]
  rw [this]
  trivial
 obtain ⟨cs',h3,h4⟩:=Hi h2 hz0 hf
 have hn0:len*n'≠0:=by
  have:=Nat.mul_pos hlen hn
  omega
 have h8:(parts.toArray.map λp:Nat×Operand=>(p.1,a.eval p.2)).toList=parts.map λp=>(p.1,a.eval p.2):=by simp
 have hrun:(execOp a.eval o).run P s.w = .ok (.value (.slice (some ⟨s.w.heap.size,0,none⟩) len len)) (s.w.alloc (.cells cs' E)):=by
  have hnr:∀arr,(newRow E arr).run P s.w = .ok ⟨s.w.heap.size,0,none⟩ (s.w.alloc (.cells arr E)):=λ_=>rfl
  have h24':¬(len*n'>2^24):=by omega
  simp only [execOp,hop,Instr.buildSlice,Sem.run_bind,run_underlying ht.und,Result.andThen_ok,he.run_size,if_neg h24',if_neg hn0,he.run_zero,Sem.run_pure,h8,h3,hnr]
 have hl:ds.length=len*n':=by
  have h9:∀(l:List (Nat×List D)) (ds0 ds1:List D),EC (λi=>some (i*n',n')) ds0 l=some ds1->ds1.length=ds0.length:=by
   intro l
   induction l with
   | nil=>intro ds0 ds1 h;cases h;rfl
   | cons p l ih=>
    intro ds0 ds1 h
    obtain ⟨i,es⟩:=p
    unfold EC at h
    simp only at h
    cases hb:(Nat.beq es.length n'&&Nat.ble (i*n'+n') ds0.length) with
    | false=>rw [hb] at h;cases h
    | true=>
     rw [hb] at h
     simp only [Bool.and_eq_true,Nat.ble_eq] at hb
     have e1:es.length=n':=Nat.eq_of_beq_eq_true hb.1
     rw [ih _ _ h,Cn (by omega)]
  rw [h9 _ _ _ hf]
  simp
 have hE:Ext s.w (s.w.alloc (.cells cs' E)):=(Ext.refl _).alloc _
 have hnew:(s.w.alloc (.cells cs' E)).heap[s.w.heap.size]? = some (.cells cs' E (0,0)):=heap_alloc_new s.w _
 have hsz:(s.w.alloc (.cells cs' E)).heap.size=s.w.heap.size+1:=Array.size_push ..
 let s':GS:=⟨λb k=>s.S b k\/(b=s.w.heap.size/\k<len*n'),s.tag,s.w.alloc (.cells cs' E)⟩
 have hS':∀b k,b<s.w.heap.size->(s'.S b k↔s.S b k):=λb k hb=>⟨λh=>h.elim (λh=>h) λh=>absurd hb (by omega),.inl⟩
 have hok':s'.Ok:=⟨λb k hb=>by
   show b<(s.w.alloc (.cells cs' E)).heap.size
   rcases hb with hb | ⟨hb,_⟩
   .have:=hst.ok.lt _ _ hb;omega
   .omega,λb k ⟨cs,fz,hb⟩=>by
   have hb:(s.w.alloc (.cells cs' E)).heap[b]? = _:=hb
   have hbl:=AG hb
   by_cases e:b=s.w.heap.size
   .subst e
    rw [hnew] at hb
    cases hb
    exact absurd rfl hE32
   .exact .inl (hst.ok.safe b k ⟨cs,fz,(hE.block (by omega)).symm.trans hb⟩)⟩
 have hle:GS.Le s s':=⟨hE,λ_ _ h=>.inl h,λb k hb h=>(hS' b k hb).1 h,λ_ _=>rfl,λ_=>hok'⟩
 obtain ⟨xs,hown,g3,g4,g5,g6⟩:=hst.hp id _ hh
 have hid:id<hp.length:=CL hh
 have hold:(slD T0 sz0 old).rel s (ρ id):=BW (av:=.own id) hst.hp ⟨hid,rfl⟩ (by simp [Ed,hh])
 have hnp:∀ad,ρ id ≠ .pointer ad:=λad e=>by
  rcases hown.2 with ⟨w1,_⟩ | ⟨g,cap,cur,w1,_⟩<;>rw [w1] at e<;>cases e
 have hlm:len<=maxLen:=by
  have:=Nat.le_mul_of_pos_right len hn
  simp only [maxLen]
  omega
 have hcl:cs'.size=len*n':=by rw [h4.1,hl]
 have hst':=hst.upd (s':=s') (o':=.row E n' (Eh n' len ds)) (ρ':=λi=>if i=id then .slice (some ⟨s.w.heap.size,0,none⟩) len len else ρ i) (f:=down id (slD T0 sz0 old)) (hst.le.trans hle) hok' hle.chg hh (λb hb _=>⟨hE.block hb,λk=>hS' b k hb⟩) (λj hj=>if_neg hj)
  ⟨cs'.toList,by
   show s'.w.ownsRow 0 E n' (if id=id then Value.slice (some ⟨s.w.heap.size,0,none⟩) len len else ρ id) (Eh n' len ds).length cs'.toList
   rw [if_pos rfl,Bo]
   exact ⟨by simp [hcl],.inr ⟨s.w.heap.size,len,cs',rfl,Nat.zero_le _,hnew,Nat.le_refl _,hlm,hcl,by rw [List.take_of_length_le (by simp [hcl])]⟩⟩,hE32,hn,λb hb k=>by
   replace hb:DL (if id=id then Value.slice (some ⟨s.w.heap.size,0,none⟩) len len else ρ id)=some b:=hb
   rw [if_pos rfl] at hb
   cases hb
   rw [Bo]
   exact ⟨λhk=>hk.elim (λhk=>absurd (hst.ok.lt _ _ hk) (Nat.lt_irrefl _)) λhk=>hk.2,λhk=>.inr ⟨rfl,hk⟩⟩,λk hk=>by
   rw [Bo] at hk
   have hkl:k*n'+n'<=len*n':=by
    have:(k+1)*n'<=len*n':=Nat.mul_le_mul_right n' hk
    rw [Nat.succ_mul] at this
    omega
   rw [Iz _ _ _ _ hk]
   refine ⟨by simp;omega,λj hj=>?_⟩
   rw [Hm hj,Jq]
   obtain ⟨u,h10,h11,h12⟩:=h4.2 (k*n'+j) (by omega)
   exact ⟨u,by simpa using h10,h11,(BG ds _).st h12 hle.chg⟩⟩
  (λb hb=>by
   replace hb:DL (if id=id then Value.slice (some ⟨s.w.heap.size,0,none⟩) len len else ρ id)=some b:=hb
   rw [if_pos rfl] at hb
   cases hb
   exact .inr (Nat.le_refl _)) (Jo hold hle.chg hnp)
 have hfin:=hst'.put (GS.Le.refl s') (dst:=o.dst) (λd hd'=>by rw [hdst] at hd';cases hd';simpa [Nat.blt_eq] using hd) (v:=.slice (some ⟨s.w.heap.size,0,none⟩) len len) (r:=.own id) ⟨by simpa using hid,by simp⟩
 unfold Oper.wp
 rw [hrun]
 refine hK _ _ _ h ?_
 rw [hdst] at hfin ⊢
 exact ⟨s',_,rfl,hfin⟩
theorem A0P{t E:TypeId}{len nn b n' b' e:Nat}{z z':Value}{d:TypeDesc}{parts:List (Nat×Operand)}{r:List (Nat×List D)}{ds:List D}{T0 sz0:Nat}{old:List (List D)}{fr':List (Nat×AV)}{hd' hp':List Ow}(id:Nat)(ht:Tab P t (.slice E) nn b z)(he:Tab P E d n' b' z')(hlen:0<len)(hn:0<n')(hz:z'.cells.size=n')(h24:len*n'<=16777216)(h1:one1 z'.cells.toList=true)(hr:PartsA hp (AS.arg ⟨fr,hp⟩) parts r)(hf:EC (λi=>some (i*n',n')) (List.replicate (len*n') Cp) r=some ds)(hE32:Nat.beq E 136=false)
  (hd:Nat.blt e n=true) (hh:hp[id]? = some (.row T0 sz0 old)) (hfr:EV id (slD T0 sz0 old) fr=some fr') (hpl:DownR id (slD T0 sz0 old) hp hd') (hs:Do hd' id (.row E n' (Eh n' len ds))=some hp') (h:AWl P s0 n ops Q rest ⟨(e,.own id)::fr',hp'⟩) :
  AWl P s0 n ops Q (⟨some e,.buildSlice t len parts.toArray,ty,ps,af,none⟩::rest) ⟨fr,hp⟩:=AWl.step rfl (A1d id rfl rfl ht he hlen hn hz h24 h1 hr hf (Nat.ne_of_beq_eq_false hE32) hd hh hfr hpl hs h)
def A1c:List AV->Nat->AV->Option (List AV)
 | [],_,_=>none
 | _::l,0,x=>some (x::l)
 | y::l,k+1,x=>match A1c l k x with
  | some r=>some (y::r)
  | none=>none
theorem UE:∀{l:List AV} {k:Nat} {x:AV} {r:List AV},A1c l k x=some r->k<l.length/\r=l.set k x
 | [],_,_,_,h=>by cases h
 | _::l,0,x,r,h=>by cases h;exact ⟨by simp,rfl⟩
 | y::l,k+1,x,r,h=>by
  unfold A1c at h
  split at h
  .rename_i r' h'
   cases h
   obtain ⟨h1,h2⟩:=UE h'
   exact ⟨by simpa using h1,by rw [h2];rfl⟩
  .cases h
theorem JG{T T0:TypeId}{d:TypeDesc}{b id off:Nat}{z:Value}{x y:Operand}{cells cells':List AV}{av:AV}{hp':List Ow}(hx:AS.arg ⟨fr,hp⟩ x = .ptr id off)(hy:AS.arg ⟨fr,hp⟩ y=av)(hh:hp[id]? = some (.var T0 cells))(ht:Tab P T d 1 b z)(h1:One hp av)(hs0:A1c cells off av=some cells')(hs:Do hp id (.var T0 cells')=some hp')(h:AWl P s0 n ops Q rest ⟨fr,hp'⟩) :
  AWl P s0 n ops Q (⟨none,.store T x y,ty,ps,af,none⟩::rest) ⟨fr,hp⟩:=by
 obtain ⟨h2,h3⟩:=UE hs0
 refine ME (o:=⟨none,.store T x y,ty,ps,af,none⟩) rfl rfl rfl hx hy hh ht h1 h2 ?_
 rw [Cs hs,h3] at h
 exact h
end
structure HE where
 b:Nat
 T:TypeId
 ds:List D
def HB(s:GS)(e:HE):Prop:=e.T≠136/\(∀k,¬s.S e.b k)/\∃cs:Array Value,s.w.heap[e.b]? = some (.cells cs e.T (0,0))/\e.ds.length<=cs.size/\∀k,k<e.ds.length->∃u,cs[k]? = some u/\u.oneCell'=true/\(BG e.ds k).rel s u
theorem HB.lt{s:GS}{e:HE}(h:HB s e):e.b<s.w.heap.size:=by
 obtain ⟨_,_,cs,h1,_⟩:=h
 exact AG h1
theorem HB.keep{s s':GS}{e:HE}(h:HB s e)(hc:GS.Chg s s')(hb:s'.w.heap[e.b]? = s.w.heap[e.b]? /\ ∀k,s'.S e.b k↔s.S e.b k):HB s' e:=by
 obtain ⟨h1,h2,cs,h3,h4,h5⟩:=h
 refine ⟨h1,λk hk=>h2 k ((hb.2 k).1 hk),cs,hb.1.trans h3,h4,λk hk=>?_⟩
 obtain ⟨u,h6,h7,h8⟩:=h5 k hk
 exact ⟨u,h6,h7,(BG e.ds k).st h8 hc⟩
def By(L:List HE):OD where
 rel s _:=(∀e∈L,HB s e)/\(L.map (·.b)).Nodup
 blk _ _ b:=∃e,e∈L/\e.b=b
 lt:=λ⟨h,_⟩ ⟨e,he,hb⟩=>hb▸(h e he).lt
 keep:=λ⟨h,h'⟩ hc hb=>⟨⟨λe he=>(h e he).keep hc (hb e.b ⟨e,he,rfl⟩),h'⟩,λ_ hx=>hx⟩
theorem Ec{L:List HE}{s:GS}{v:Value}(h:(By L).rel s v):(∀e∈L,HB s e)/\(L.map (·.b)).Nodup:=h
abbrev pX(b off:Nat):D:=ex (.pointer (some ⟨b,off,none⟩))
abbrev sX(b len cap:Nat):D:=ex (.slice (some ⟨b,0,none⟩) len cap)
section
variable {P:Program} {hp:List Ow} {arg:Operand->AV} {dd:Option Tmp} {ty:TypeId} {ps:String} {af:Array Edge} {gd:Option (Nat×Bool)}
theorem NV{o:Oper}{x:Operand}{t:TypeId}{d:TypeDesc}{n b id i off:Nat}{z:Value}{L:List HE}{e:HE}{es:List D}(hop:o.op = .load t x)(hx:arg x = .d (pX e.b off))(hh:hp[id]? = some (.obj (By L)))(hi:L[i]? = some e)(ht:Tab P t d n b z)(hd:Eb d=true)(hc:PartAt e.ds off n es):Quiet P hp o arg (.d (Bb es)):=by
 refine ⟨λbase s ρ ev hok hbs hhp h=>?_⟩
 have h1:=h x (by rw [hop];simp [Op.operands])
 rw [hx] at h1
 have e1:ev x = .pointer (some ⟨e.b,off,none⟩):=h1
 obtain ⟨h2,_⟩:=Ec (hhp id _ hh)
 obtain ⟨_,_,cs,h3,h4,h5⟩:=h2 e (List.mem_of_getElem? hi)
 have hle:=hc.le
 have hcell:∀j,j<n->∃u,s.w.cell? ⟨e.b,off+j,none⟩=some u/\u.oneCell'=true/\(BG es j).rel s u:=λj hj=>by
  obtain ⟨u,h6,h7,h8⟩:=h5 (off+j) (by omega)
  refine ⟨u,(AU h3).trans h6,h7,?_⟩
  have:BG es j=BG e.ds (off+j):=by
   rw [<-hc.eq,Hm hj]
   simp [BG,List.getElem?_drop]
  rw [this]
  exact h8
 obtain ⟨f,hf⟩:∃f:Nat->Value,∀j,j<n->s.w.cell? ⟨e.b,off+j,none⟩=some (f j)/\(f j).oneCell'=true/\(BG es j).rel s (f j):=by
  refine ⟨λj=>if hj:j<n then (hcell j hj).choose else undef,λj hj=>?_⟩
  simp only [dif_pos hj]
  exact (hcell j hj).choose_spec
 have hr:=FO ht hd e.b off f λj hj=>(hf j hj).1
 have hel:es.length=n:=by rw [<-hc.eq,List.length_take,List.length_drop];omega
 refine Bk (v:=.agg ((List.range n).map f).toArray) ?_ ⟨GS.Le.refl s,_,rfl,by simp;omega,λk hk=>?_⟩
 .simp [execOp,hop,e1,Instr.loadAt,Instr.sureAddr,hr]
 .have hkn:k<n:=by omega
  exact ⟨f k,by simp [hkn],(hf k hkn).2⟩
theorem Mr{o:Oper}{x:Operand}{t:TypeId}{d:TypeDesc}{n b id i off:Nat}{z:Value}{L:List HE}{e:HE}{u:D}(hop:o.op = .load t x)(hx:arg x = .d (pX e.b off))(hh:hp[id]? = some (.obj (By L)))(hi:L[i]? = some e)(ht:Tab P t d n b z)(hd:Eb d=false)(hc:CellAt e.ds off u):Quiet P hp o arg (.d u):=by
 refine ⟨λbase s ρ ev hok hbs hhp h=>?_⟩
 have h1:=h x (by rw [hop];simp [Op.operands])
 rw [hx] at h1
 have e1:ev x = .pointer (some ⟨e.b,off,none⟩):=h1
 obtain ⟨h2,_⟩:=Ec (hhp id _ hh)
 obtain ⟨_,_,cs,h3,h4,h5⟩:=h2 e (List.mem_of_getElem? hi)
 obtain ⟨v,h6,h7,h8⟩:=h5 off hc.lt
 rw [hc.eq] at h8
 have hcell:s.w.cell? ⟨e.b,off,none⟩=some v:=(AU h3).trans h6
 refine Bk (v:=v) ?_ ⟨GS.Le.refl s,h8⟩
 simp [execOp,hop,e1,Instr.loadAt,Instr.sureAddr,loadVar,ht.run_agg,hd,hcell]
theorem Mx{x:Operand}{t:TypeId}{d:TypeDesc}{n b off:Nat}{z:Value}{L:List HE}{e:HE}{es:List D}(id i:Nat)(hx:arg x = .d (pX e.b off))(hh:hp[id]? = some (.obj (By L)))(hi:L[i]? = some e)(ht:Tab P t d n b z)(hd:Eb d=true)(hc:PartAt e.ds off n es):Quiet P hp ⟨dd,.load t x,ty,ps,af,gd⟩ arg (.d (Bb es)):=NV rfl hx hh hi ht hd hc
theorem PE{x:Operand}{t:TypeId}{d:TypeDesc}{n b off:Nat}{z:Value}{L:List HE}{e:HE}{u:D}(id i:Nat)(hx:arg x = .d (pX e.b off))(hh:hp[id]? = some (.obj (By L)))(hi:L[i]? = some e)(ht:Tab P t d n b z)(hd:Eb d=false)(hc:CellAt e.ds off u):Quiet P hp ⟨dd,.load t x,ty,ps,af,gd⟩ arg (.d u):=Mr rfl hx hh hi ht hd hc
end
theorem LG{L:List HE}(h:(L.map (·.b)).Nodup){i j:Nat}{e e':HE}(hi:L[i]? = some e)(hj:L[j]? = some e')(hb:e.b=e'.b):i=j:=by
 obtain ⟨h1,h2⟩:=List.getElem?_eq_some_iff.1 hi
 obtain ⟨h3,h4⟩:=List.getElem?_eq_some_iff.1 hj
 have:=List.pairwise_iff_getElem.1 h
 rcases Nat.lt_trichotomy i j with hl | hl | hl
 .have hij:=this i j (by simpa using h1) (by simpa using h3) hl
  rw [List.getElem_map,List.getElem_map,h2,h4] at hij
  exact absurd hb hij
 .exact hl
 .have hij:=this j i (by simpa using h3) (by simpa using h1) hl
  rw [List.getElem_map,List.getElem_map,h2,h4] at hij
  exact absurd hb.symm hij
section
variable {P:Program} {s0:An} {n:Nat} {ops:Array Oper} {Q:Exit->AS->Prop} {rest:List Oper} {fr:List (Nat×AV)} {hp hp':List Ow} {ty:TypeId} {ps:String} {af:Array Edge}
theorem FF{id i:Nat}{L:List HE}{e:HE}{s:GS}{ρ:Nat->Value}{act:Act}(hst:StI s0 n ⟨fr,hp⟩ act s ρ)(hid:hp[id]? = some (.obj (By L)))(hi:L[i]? = some e){W:World}{cs':Array Value}{ds':List D}
  (hos:W.os=s.w.os) (htp:W.tape=s.w.tape) (hop:W.output=s.w.output) (hsz:W.heap.size=s.w.heap.size) (hfar:∀b,b≠e.b->W.heap[b]? = s.w.heap[b]?) (hnew:W.heap[e.b]? = some (.cells cs' e.T (0,0))) (hl:ds'.length<=cs'.size)
  (hds:∀k,k<ds'.length->∃u,cs'[k]? = some u/\u.oneCell'=true/\(BG ds' k).rel s u) (hs:Do hp id (.obj (By (L.set i ⟨e.b,e.T,ds'⟩)))=some hp'):StI s0 n ⟨fr,hp'⟩ act { s with w:=W } ρ:=by
 obtain ⟨h1,hnd⟩:=Ec (hst.hp id _ hid)
 have hem:=List.mem_of_getElem? hi
 obtain ⟨hT,hS,cs,h2,h3,h4⟩:=h1 e hem
 have hok : GS.Ok { s with w := W } := GB hst.ok (fun _ _ h => h) (by show _ ≤ W.heap.size; omega) (fun _ _ h => h) fun b ⟨c, fz, hb⟩ => by
  by_cases e1:b=e.b
  .have hb:W.heap[b]? = _:=hb
   rw [e1,hnew] at hb
   exact absurd (Obj.cells.inj (Option.some.inj hb)).2.1 hT
  .exact ⟨c,fz,(hfar b e1).symm.trans hb⟩
 have hc : GS.Chg s { s with w := W } := ⟨by show _ ≤ W.heap.size; omega, fun _ _ h => h, fun b c T fz hb => by
  by_cases e1:b=e.b
  .rw [e1,h2] at hb
   cases hb
   exact ⟨_,_,by rw [e1];exact hnew,λk hk=>absurd (e1▸hk) (hS k)⟩
  .exact ⟨c,fz,(hfar b e1).trans hb,λ_ _=>rfl⟩⟩
 have hbs:(L.set i ⟨e.b,e.T,ds'⟩).map (·.b)=L.map (·.b):=by
  rw [List.map_set]
  apply List.ext_getElem?
  intro j
  rw [List.getElem?_set]
  split
  .rename_i hij
   subst hij
   rw [List.getElem?_map,hi]
   split
   .rfl
   .rename_i hlt
    exact absurd (by simpa using (List.getElem?_eq_some_iff.1 hi).1) hlt
  .rfl
 have hst':=hst.upd (s':={ s with w:=W }) (ρ':=ρ) (f:=λx=>x) (o':=.obj (By (L.set i ⟨e.b,e.T,ds'⟩))) (hst.le.turn (hst.own id _ e.b hid ⟨e,hem,rfl⟩) hos htp hop (λb _ hb=>⟨hfar b hb,λ_ h=>h⟩) hc (λ_ _=>rfl) λ_=>hok) hok hc hid
  (λb _ hb=>⟨hfar b λe1=>hb ⟨e,hem,e1.symm⟩,λ_=>Iff.rfl⟩) (λ_ _=>rfl)
  (by
   refine ⟨λx hx=>?_,by rw [hbs];exact hnd⟩
   obtain ⟨j,hj⟩:=List.mem_iff_getElem?.1 hx
   rw [List.getElem?_set] at hj
   split at hj
   .rename_i hij
    split at hj
    .cases hj
     exact ⟨hT,hS,cs',hnew,hl,λk hk=>by
      obtain ⟨u,g1,g2,g3⟩:=hds k hk
      exact ⟨u,g1,g2,(BG ds' k).st g3 hc⟩⟩
    .cases hj
   .rename_i hij
    refine (h1 x (List.mem_of_getElem? hj)).keep hc ⟨hfar x.b λhb=>hij (LG hnd hi hj hb.symm),λ_=>Iff.rfl⟩)
  (λb hb=>.inl (by
   obtain ⟨x,hx,rfl⟩:=hb
   have:x.b∈(L.set i ⟨e.b,e.T,ds'⟩).map (·.b):=List.mem_map_of_mem hx
   rw [hbs] at this
   obtain ⟨y,hy,e1⟩:=List.mem_map.1 this
   exact ⟨y,hy,e1⟩)) λav v h=>h.chg hc
 rw [En,De,<-Cs hs] at hst'
 exact hst'
end
theorem HH{cs:Array Value}{vs:List Value}{off:Nat}(h:off+vs.length<=cs.size)(k:Nat):(cs.toList.take off++vs++cs.toList.drop (off+vs.length)).toArray[k]? = if off<=k/\k<off+vs.length then vs[k-off]? else cs[k]?:=by
 rw [List.getElem?_toArray,List.append_assoc,List.getElem?_append]
 have hl1:(cs.toList.take off).length=off:=by simp;omega
 rw [hl1]
 split
 .rename_i hlt
  rw [if_neg (by omega),List.getElem?_take,if_pos hlt]
  simp
 .rename_i hge
  rw [List.getElem?_append]
  split
  .rename_i hlt
   rw [if_pos (by omega)]
  .rename_i hge2
   rw [if_neg (by omega),List.getElem?_drop]
   simp only [Array.getElem?_toList]
   congr 1
   omega
section
variable {P:Program} {s0:An} {n:Nat} {ops:Array Oper} {Q:Exit->AS->Prop} {rest:List Oper} {fr:List (Nat×AV)} {hp hp':List Ow} {ty:TypeId} {ps:String} {af:Array Edge}
theorem VV{T:TypeId}{d:TypeDesc}{b m off:Nat}{z:Value}{x y:Operand}{L:List HE}{e:HE}{es ds':List D}(id i:Nat)(hx:AS.arg ⟨fr,hp⟩ x = .d (pX e.b off))(hy:AS.arg ⟨fr,hp⟩ y = .d (Bb es))(hh:hp[id]? = some (.obj (By L)))(hi:L[i]? = some e)(ht:Tab P T d m b z)(hm:es.length=m)(hc:SetAt e.ds off es ds')(hs:Do hp id (.obj (By (L.set i ⟨e.b,e.T,ds'⟩)))=some hp')
  (h:AWl P s0 n ops Q rest ⟨fr,hp'⟩):AWl P s0 n ops Q (⟨none,.store T x y,ty,ps,af,none⟩::rest) ⟨fr,hp⟩:=by
 refine AWl.step rfl λs ρ a hst K hK=>?_
 have hx':=hst.arg x
 have hy':=hst.arg y
 rw [hx] at hx';rw [hy] at hy'
 have e1:a.eval x = .pointer (some ⟨e.b,off,none⟩):=hx'
 obtain ⟨h1,-⟩:=Ec (hst.hp id _ hh)
 obtain ⟨hT,hS,cs,h4,h5,h6⟩:=h1 e (List.mem_of_getElem? hi)
 obtain ⟨vs,e2,hv1,hv2⟩:=hy'
 have hle:=hc.le
 have hvone:∀v∈vs.toList,v.oneCell'=true:=λv hv=>by
  obtain ⟨k,hk,rfl⟩:=List.getElem_of_mem hv
  simp at hk
  obtain ⟨u,h9,h10,_⟩:=hv2 k (by omega)
  rw [Array.getElem?_eq_getElem hk] at h9
  cases h9
  simpa using h10
 have hvl:vs.toList.length=m:=by simp [hv1,hm]
 have hst1:=run_storeCells_at P e.b off e.T vs.toList 0 cs s.w h4 (by omega) hvone
 simp only [Nat.add_zero] at hst1
 obtain ⟨W,hW⟩:∃W,W=s.w.setRow e.b (cs.toList.take off++vs.toList++cs.toList.drop (off+vs.toList.length)).toArray:=⟨_,rfl⟩
 rw [<-hW] at hst1
 have hrun:(execOp a.eval ⟨none,.store T x y,ty,ps,af,none⟩).run P s.w = .ok .skip W:=by
  simp [execOp,e1,e2,Instr.storeAt,Instr.sureAddr,storeVar,Value.cells,hv1,hm,ht.run_size,hst1]
 unfold Oper.wp
 rw [hrun]
 have hnew:W.heap[e.b]? = some (.cells (cs.toList.take off++vs.toList++cs.toList.drop (off+vs.toList.length)).toArray e.T (0,0)):=by rw [hW];exact setRow_heap s.w e.b cs _ e.T _ h4
 have hfin := FF hst hh hi (W := W) (ds' := ds') (by rw [hW]; rfl) (by rw [hW]; rfl) (by rw [hW]; rfl) (by rw [hW]; simp [World.setRow]) (fun b hb => by rw [hW]; exact setRow_other s.w e.b b _ (fun e => hb e)) hnew
  (by rw [← hc.eq, Cn hle]; simp; omega) (fun k hk => by
   rw [<-hc.eq,Cn hle] at hk
   rw [HH (by omega),<-hc.eq,Lo hle]
   by_cases hr:off<=k/\k<off+es.length
   .rw [if_pos (by omega), if_pos hr]
    obtain ⟨u,g1,g2,g3⟩:=hv2 (k-off) (by omega)
    exact ⟨u,by simpa using g1,g2,g3⟩
   .rw [if_neg (by omega), if_neg hr]
    exact h6 k hk) hs
 exact hK _ _ _ h ⟨_,ρ,rfl,hfin⟩
theorem A0O{T:TypeId}{d:TypeDesc}{b off:Nat}{z:Value}{x y:Operand}{L:List HE}{e:HE}{u:D}{ds':List D}(id i:Nat)(hx:AS.arg ⟨fr,hp⟩ x = .d (pX e.b off))(hy:AS.arg ⟨fr,hp⟩ y = .d u)(hh:hp[id]? = some (.obj (By L)))(hi:L[i]? = some e)(ht:Tab P T d 1 b z)(h1:One hp (.d u))(hc:SetAt e.ds off [u] ds')(hs:Do hp id (.obj (By (L.set i ⟨e.b,e.T,ds'⟩)))=some hp')
  (h:AWl P s0 n ops Q rest ⟨fr,hp'⟩):AWl P s0 n ops Q (⟨none,.store T x y,ty,ps,af,none⟩::rest) ⟨fr,hp⟩:=by
 refine AWl.step rfl λs ρ a hst K hK=>?_
 have hx':=hst.arg x
 have hy':=hst.arg y
 rw [hx] at hx';rw [hy] at hy'
 have e1:a.eval x = .pointer (some ⟨e.b,off,none⟩):=hx'
 obtain ⟨g1,-⟩:=Ec (hst.hp id _ hh)
 obtain ⟨hT,hS,cs,h4,h5,h6⟩:=g1 e (List.mem_of_getElem? hi)
 have hle:=hc.le
 simp only [List.length_cons,List.length_nil] at hle
 have hv1:=h1 _ _ _ _ hst.hp hy'
 have hcell:s.w.cell? ⟨e.b,off,none⟩=some (cs[off]'(by omega)):=(AU h4).trans (Array.getElem?_eq_getElem _)
 have hfz:s.w.frozen? ⟨e.b,off,none⟩=false:=Blk.frozen h4 off
 have hvc:(a.eval y).cells=#[a.eval y]:=by cases hv:a.eval y<;>first | rfl | (rw [hv] at hv1;cases hv1)
 have hrun:(execOp a.eval ⟨none,.store T x y,ty,ps,af,none⟩).run P s.w = .ok .skip (s.w.setCell ⟨e.b,off,none⟩ (a.eval y)):=by
  have h9:(store ⟨e.b,off,none⟩ (a.eval y)).run P s.w = .ok () (s.w.setCell ⟨e.b,off,none⟩ (a.eval y)):=by
   cases hv:a.eval y<;>first | (rw [hv] at hv1;cases hv1;done) | simp [store,Sem.run,hcell,hfz]
  simp [execOp,e1,Instr.storeAt,Instr.sureAddr,storeVar,hvc,ht.run_size,storeCells,Addr.add_lit,h9]
 unfold Oper.wp
 rw [hrun]
 have hfin := FF hst hh hi (W := s.w.setCell ⟨e.b, off, none⟩ (a.eval y)) (ds' := ds') rfl rfl rfl (by simp [World.setCell]) (fun b hb => Below.heap_setCell _ _ _ _ hb) (Blk.set h4 off _)
  (by rw [← hc.eq, Cn hc.le]; simp; omega) (fun k hk => by
   rw [<-hc.eq,Cn hc.le] at hk
   rw [<-hc.eq,Lo hc.le]
   by_cases hr:off<=k/\k<off+1
   .obtain rfl:k=off:=by omega
    rw [if_pos (by simp)]
    have hko:k<cs.size:=by omega
    refine ⟨a.eval y,by simp [hko],hv1,?_⟩
    rw [Nat.sub_self]
    exact hy'
   .rw [if_neg (by simpa using hr), Array.getElem?_setIfInBounds_ne (by omega)]
    exact h6 k hk) hs
 exact hK _ _ _ h ⟨_,ρ,rfl,hfin⟩
theorem A2n{t T m b bytes c k e:Nat}{z z':Value}{d:TypeDesc}{x y:Operand}{hpf:Nat->List Ow}(hx:AS.arg ⟨fr,hp⟩ x = .d (ex (.int .i64 (c:Nat))))(hy:AS.arg ⟨fr,hp⟩ y = .d (ex (.int .i64 (c:Nat))))(ht:Tab P t (.slice T) m b z')(hT:Tab P T d 1 bytes z)(hz:z.cells=#[z])(hz1:z.oneCell'=true)(hc:c<=1000000)(hbytes:Nat.ble bytes 65536=true)(hT32:Nat.beq T 136=false)(hd:Nat.blt e n=true)(hk:Fk hp=some k)(hs:∀g,Dt hp (.obj (By [⟨g,T,List.replicate c (ex z)⟩]))=some (hpf g))
  (h:∀g,AWl P s0 n ops Q rest ⟨(e,.d (sX g c c))::fr,hpf g⟩):AWl P s0 n ops Q (⟨some e,.makeSlice t x y,ty,ps,af,none⟩::rest) ⟨fr,hp⟩:=by
 refine AWl.step rfl λs ρ a hst K hK=>?_
 have e1:a.eval x = .int .i64 (c:Nat):=St.exD hx ⟨s,ρ,rfl,hst⟩
 have e2:a.eval y = .int .i64 (c:Nat):=St.exD hy ⟨s,ρ,rfl,hst⟩
 obtain ⟨i,hi,hz0,hsize,hby⟩:=hT.info
 have hbytes:=Nat.le_of_ble_eq_true hbytes
 have hT32':=Nat.ne_of_beq_eq_false hT32
 obtain rfl:=Ea hk
 have wc:IntKind.i64.wrap ((c:Nat):Int)=c:=IntWalk.i64_in _ (by omega)
 have hprod:bytes*c<=65536*1000000:=Nat.mul_le_mul hbytes hc
 have hprod':((bytes:Int)*(c:Int))<=281474976710656:=by
  have:((bytes*c:Nat):Int)<=((65536*1000000:Nat):Int):=Int.ofNat_le.2 hprod
  rw [Int.natCast_mul] at this
  omega
 have hroom:c*bytes<=roomBytes:=by
  rw [Nat.mul_comm]
  have:roomBytes=140737488355328:=rfl
  omega
 obtain ⟨arr,harr,harr2,hrun⟩:∃arr:Array Value,arr.size=c/\(∀k,k<c->arr[k]? = some z)/\(execOp a.eval ⟨some e,.makeSlice t x y,ty,ps,af,none⟩).run P s.w = .ok (.value (.slice (some ⟨s.w.heap.size,0,none⟩) c c)) (s.w.alloc (.cells arr T)):=by
  have hn:∀arr,(newRow T arr).run P s.w = .ok ⟨s.w.heap.size,0,none⟩ (s.w.alloc (.cells arr T)):=λ_=>rfl
  have h281:¬(281474976710656<(bytes:Int)*(c:Int)):=by omega
  have hroom':¬(roomBytes<c*bytes):=by omega
  have hkn:¬((c:Int)<0):=by omega
  by_cases hk0:c=0
  .subst hk0
   refine ⟨(Array.range 0).map (λj=>(#[]:Array Value)[j%0]!),by simp,λk hk=>by omega,?_⟩
   simp [execOp,e1,e2,Instr.makeSlice,run_underlying ht.und,asInt,asIntOf,typeInfo,hi,hby,askRoom,hT.run_size,hn,sizeOf,hsize,show IntKind.i64.wrap 0=0 from rfl]
  .refine ⟨(Array.range c).map (fun j => z.cells[j % z.cells.size]!), by simp, fun k hk => by
    have:k%1=0:=Nat.mod_one k
    simp [hk,hz,this],?_⟩
   simp [execOp,e1,e2,Instr.makeSlice,run_underlying ht.und,asInt,asIntOf,typeInfo,hi,hby,wc,h281,askRoom,hroom',sizeOf,hsize,hk0,zeroValue,hz0,hn,hkn]
 unfold Oper.wp
 rw [hrun]
 have hfin := hst.new (s.le_mk' arr T 0 hT32') (dst := some e) (fun d hd' => by cases hd'; simpa [Nat.blt_eq] using hd) (v := .slice (some ⟨s.w.heap.size, 0, none⟩) c c) (u := undef) (r := .d (sX s.w.heap.size c c)) (ow := .obj (By [⟨s.w.heap.size, T, List.replicate c (ex z)⟩])) rfl
  (by
   refine ⟨λx hx=>?_,by simp⟩
   rw [List.mem_singleton.1 hx]
   refine ⟨hT32',λk hk=>?_,arr,heap_alloc_new s.w _,by simp [harr],λk hk=>?_⟩
   .exact absurd (hst.ok.lt _ _ hk) (Nat.lt_irrefl _)
   .have hk:k<c:=by simpa using hk
    refine ⟨z,harr2 k hk,hz1,?_⟩
    have:BG (List.replicate c (ex z)) k=ex z:=by simp [BG,hk]
    rw [this]
    exact rfl)
  (λb hb=>by
   obtain ⟨x,hx,rfl⟩:=hb
   rw [List.mem_singleton.1 hx]
   exact Nat.le_refl _)
 have hg:=h s.w.heap.size
 rw [CI (hs s.w.heap.size)] at hg
 exact hK _ _ _ hg ⟨_,_,rfl,hfin⟩
end
section
variable {P:Program} {hp:List Ow} {arg:Operand->AV} {dd:Option Tmp} {ty:TypeId} {ps:String} {af:Array Edge} {gd:Option (Nat×Bool)}
theorem CN{x y:Operand}{t:TypeId}{e n b n' b' g len cap k:Nat}{d:TypeDesc}{z z':Value}{κ:IntKind}(hx:arg x = .d (sX g len cap))(hy:arg y = .d (ex (.int κ ((k:Nat):Int))))(ht:Tab P t (.slice e) n b z)(he:Tab P e d n' b' z')(hk:k<len):Quiet P hp ⟨dd,.indexAddr t x y,ty,ps,af,gd⟩ arg (.d (pX g (k*n'))):=by
 refine ⟨λbase s ρ ev hok hbs hhp h=>?_⟩
 have h1:=h x (by simp [Op.operands])
 have h2:=h y (by simp [Op.operands])
 rw [hx] at h1;rw [hy] at h2
 have e1:ev x = .slice (some ⟨g,0,none⟩) len cap:=h1
 have e2:ev y = .int κ ((k:Nat):Int):=h2
 refine Bk (v:=.pointer (some ⟨g,k*n',none⟩)) ?_ ⟨GS.Le.refl s,rfl⟩
 have h0:(0:Int)<=((k:Nat):Int):=by omega
 have hi:((k:Nat):Int)<(len:Int):=by omega
 simp [execOp,e1,e2,Instr.indexAt,asIntOf,run_underlying ht.und,h0,hk,he.run_size,Addr.add_lit]
theorem Dq{x:Operand}{t:TypeId}{e n b g len cap:Nat}{z:Value}(hx:arg x = .d (sX g len cap))(ht:Tab P t (.slice e) n b z):Quiet P hp ⟨dd,.call { callee:=.builtin .len,args:=#[x],argTypes:=#[t] },ty,ps,af,gd⟩ arg (.d (ex (.int .i64 (len:Nat)))):=by
 refine ⟨λbase s ρ ev hok hbs hhp h=>?_⟩
 have h1:=h x (by simp [Op.operands,Call.operands])
 rw [hx] at h1
 have e1:ev x = .slice (some ⟨g,0,none⟩) len cap:=h1
 refine Bk (v:=.int .i64 (len:Nat)) ?_ ⟨GS.Le.refl s,rfl⟩
 simp [execOp,resolve,invoke,builtin,e1,Builtin.len_,run_underlying ht.und,goInt]
end
def Qb(T sz:Nat)(rows:List (List D)):OD where
 rel s v:=∃xs:List Value,s.w.ownsRow 0 T sz v rows.length xs/\T≠136/\0<sz/\(∀b,DL v=some b->∀k,¬s.S b k)/\∀k,k<rows.length->(rows.getD k []).length=sz/\∀j,j<sz->∃u,xs[k*sz+j]? = some u/\u.oneCell'=true/\(BG (rows.getD k []) j).rel s u
 blk _ v b:=DL v=some b
 lt:=λ⟨xs,h,_⟩ hb=>by
  rcases h.2 with ⟨rfl,_⟩ | ⟨g,cap,cur,rfl,_,hg,_⟩
  .cases hb
  .cases hb
   exact AG hg
 keep := fun ⟨xs, h, h1, h2, h3, h4⟩ hc hb => ⟨⟨xs, ⟨h.1, h.2.imp id fun ⟨g, cap, cur, e, r1, hg, r2⟩ => ⟨g, cap, cur, e, r1, (hb g (by rw [e]; rfl)).1.trans hg, r2⟩⟩, h1, h2, fun b hv k hk => h3 b hv k (((hb b hv).2 k).1 hk), fun k hk => ⟨(h4 k hk).1, fun j hj => by
  obtain ⟨u,r1,r2,r3⟩:=(h4 k hk).2 j hj
  exact ⟨u,r1,r2,(BG _ j).st r3 hc⟩⟩⟩,λ_ hx=>hx⟩
section
variable {P:Program} {s0:An} {n:Nat} {ops:Array Oper} {Q:Exit->AS->Prop} {rest:List Oper} {fr:List (Nat×AV)} {hp hp':List Ow} {ty:TypeId} {ps:String} {af:Array Edge}
theorem Uk{T sz:Nat}(id:Nat)(hh:hp[id]? = some (.row T sz []))(hs:Do hp id (.obj (Qb T sz []))=some hp'):AS.le ⟨fr,hp⟩ ⟨fr,hp'⟩:=by
 rw [Cs hs]
 intro s0 n a w ⟨s,ρ,hw,hst⟩
 obtain ⟨xs,h2,h3,h4,h5,h6⟩:=hst.hp id _ hh
 have:=hst.upd (s':=s) (ρ':=ρ) (f:=λx=>x) (o':=.obj (Qb T sz [])) hst.le hst.ok (GS.Chg.refl s) hh (λ_ _ _=>⟨rfl,λ_=>Iff.rfl⟩) (λ_ _=>rfl)
  ⟨xs,h2,h3,h4,λb hb k hk=>absurd ((h5 b hb k).1 hk) (by simp),λk hk=>absurd hk (Nat.not_lt_zero k)⟩ (λb hb=>.inl hb) λ_ _ h=>h
 rw [En,De] at this
 exact ⟨s,ρ,hw,this⟩
theorem PM{x y:Operand}{t T T2 sz bytes id m b e:Nat}{z z':Value}{d:TypeDesc}{rows r2:List (List D)}{fr':List (Nat×AV)}(hx:AS.arg ⟨fr,hp⟩ x = .own id)(hh:hp[id]? = some (.obj (Qb T sz rows)))(hlen:∀k,k<r2.length->(r2.getD k []).length=sz)(h0:0<r2.length)(hy:Ed hp (AS.arg ⟨fr,hp⟩ y)=some (slD T2 sz r2))
  (ht:Tab P t (.slice T) m b z') (hT:Tab P T d sz bytes z) (hzs:z.cells.size=sz) (hd:Nat.blt e n=true) (hbytes:(rows.length+r2.length)*bytes<=140737488355328) (h63:rows.length+r2.length<=4611686018427387904) (hf:EV id Cp fr=some fr') (hpl:PlainHp id hp) (hs:Do hp id (.obj (Qb T sz (rows++r2)))=some hp')
  (h:AWl P s0 n ops Q rest ⟨(e,.own id)::fr',hp'⟩):AWl P s0 n ops Q (⟨some e,.call { callee:=.builtin .append,args:=#[x,y],argTypes:=#[t,t] },ty,ps,af,none⟩::rest) ⟨fr,hp⟩:=by
 refine AWl.step rfl λs ρ a hst K hK=>?_
 have hx':=hst.arg x
 rw [hx] at hx'
 obtain ⟨hid,e1⟩:=hx'
 obtain ⟨xs,h2,h3,h4,h5,h6⟩:=hst.hp id _ hh
 obtain ⟨A,c0,e2,h7,h8,h9⟩:=BW hst.hp (hst.arg y) hy
 obtain ⟨g0,p,rfl,h10⟩:=h9 h0
 obtain ⟨news,n1,n2,n3,n4⟩:=KM h10
 have hlt:∀b,DL (ρ id)=some b->b<s.w.heap.size:=λb hb=>(Qb T sz rows).lt (hst.hp id _ hh) hb
 let s1:GS:=⟨λb k=>s.S b k\/(DL (ρ id)=some b/\k<rows.length*sz),s.tag,s.w⟩
 have hc1:GS.Chg s s1:=⟨Nat.le_refl _,λ_ _ hk=>.inl hk,λb cs T fz hb=>⟨cs,fz,hb,λ_ _=>rfl⟩⟩
 have hok1:s1.Ok:=⟨λb k hk=>hk.elim (hst.ok.lt b k) λh=>hlt b h.1,λb k hty=>.inl (hst.ok.safe b k hty)⟩
 have hle1:GS.LeX s0.mine s0.g s1:=⟨hst.le.os,hst.le.tape,hst.le.output,hst.le.block,hst.le.chg.trans hc1,λb k hb hm hk=>hk.elim (hst.le.old b k hb hm) λhk=>((hst.own id _ b hh hk.1).elim hm λh=>absurd hb (by omega)).elim,hst.le.tag,λ_=>hok1⟩
 obtain ⟨v',s',hr,q1,q2,q3,q4,q5,q6,q7⟩:=HI (P:=P) (ty:=ty) hle1 hok1 ht.und hT hzs h3 h4 (v:=ρ id) h2 (λb hb=>hst.own id _ b hh hb) (λb hb k=>⟨λhk=>hk.elim (λhk=>absurd hk (h5 b hb k)) λh=>h.2,λhk=>.inr ⟨hb,hk⟩⟩) g0 p r2.length c0 news n1 h0 n2 n3 hbytes h63
 have hr:(Builtin.append_ #[t,t] ty #[ρ id,.slice (some ⟨g0,p,none⟩) r2.length c0]).run P s.w = .ok v' s'.w:=hr
 have hrun:(execOp a.eval ⟨some e,.call { callee:=.builtin .append,args:=#[x,y],argTypes:=#[t,t] },ty,ps,af,none⟩).run P s.w = .ok (.value v') s'.w:=by
  simp only [execOp,resolve,invoke,builtin,Sem.run_bind,Sem.run_pure,Result.andThen_ok,List.map_toArray,List.map_cons,List.map_nil,e1,e2,hr]
 unfold Oper.wp
 rw [hrun]
 obtain ⟨g,cap,cur,rfl,hbg,hg,hnc,hcm,hcs,htake⟩:=q4.2.resolve_left (λ⟨_,hn⟩=>by omega)
 have hSg:∀k,¬s.S g k:=λk hk=>by
  rcases q7 g rfl with hb | hb
  .exact h5 g hb k hk
  .have:=hst.ok.lt _ _ hk
   have hb:s.w.heap.size<=g:=hb
   omega
 let s2:GS:=⟨λb k=>s'.S b k/\b≠g/\DL (ρ id)≠some b,s'.tag,s'.w⟩
 have hc2:GS.Chg s s2:=⟨q3.size,λb k hk=>⟨q3.up b k (.inl hk),λe=>hSg k (e▸hk),λe=>h5 b e k hk⟩,λb cs T fz hb=>by
  obtain ⟨cs',fz',r1,r2⟩:=q3.cell b cs T fz hb
  exact ⟨cs',fz',r1,λk hk=>r2 k (.inl hk)⟩⟩
 have hok2:s2.Ok:=⟨λb k hk=>q2.lt b k hk.1,λb k hty=>⟨q2.safe b k hty,λe=>by
  subst e
  obtain ⟨cs,fz,hb⟩:=hty
  have hb:s'.w.heap[b]? = _:=hb
  rw [hg] at hb
  exact h3 (Obj.cells.inj (Option.some.inj hb)).2.1,λe=>by
  rcases h2.2 with ⟨w1,_⟩ | ⟨g1,cap1,cur1,w1,_,w2,_⟩
  .rw [w1] at e;cases e
  .rw [w1] at e
   obtain rfl:g1=b:=Option.some.inj e
   obtain ⟨cs',fz',w3,_⟩:=q3.cell g1 _ _ _ w2
   obtain ⟨cs,fz,hb⟩:=hty
   have hb:s'.w.heap[g1]? = _:=hb
   rw [w3] at hb
   exact h3 (Obj.cells.inj (Option.some.inj hb)).2.1⟩⟩
 have hle2:GS.LeX s0.mine s0.g s2:=⟨q1.os,q1.tape,q1.output,q1.block,hst.le.chg.trans hc2,λb k hb hm hk=>q1.old b k hb hm hk.1,q1.tag,λ_=>hok2⟩
 have hnp:∀a,ρ id ≠ .pointer a:=λa e=>by
  rcases h2.2 with ⟨w1,_⟩ | ⟨_,_,_,w1,_⟩<;>rw [w1] at e<;>cases e
 have hst':=hst.upd (s':=s2) (o':=.obj (Qb T sz (rows++r2))) (ρ':=λi=>if i=id then .slice (some ⟨g,0,none⟩) (rows.length+r2.length) cap else ρ i) (f:=down id Cp) hle2 hok2 hc2 hh
  (λb hb hnb=>⟨(q6 b hb hnb).1,λk=>⟨λhk=>(((q6 b hb hnb).2 k).1 hk.1).elim (λh=>h) λh=>absurd h.1 hnb,λhk=>⟨((q6 b hb hnb).2 k).2 (.inl hk),λe=>hSg k (e▸hk),hnb⟩⟩⟩) (λj hj=>if_neg hj)
  (by
   refine ⟨xs++news,?_,h3,h4,λb hb k hk=>?_,λk hk=>?_⟩
   .simp only [if_pos,List.length_append]
    exact q4
   .simp only [if_pos] at hb
    cases hb
    exact hk.2.1 rfl
   .rw [List.length_append] at hk
    by_cases hkr:k<rows.length
    .have e3:(rows++r2).getD k []=rows.getD k []:=by rw [List.getD_eq_getElem?_getD, List.getD_eq_getElem?_getD, List.getElem?_append_left hkr]
     rw [e3]
     refine ⟨(h6 k hkr).1,λj hj=>?_⟩
     obtain ⟨u,r1,r2',r3⟩:=(h6 k hkr).2 j hj
     have hb:k*sz+j<xs.length:=(List.getElem?_eq_some_iff.1 r1).1
     exact ⟨u,by rw [List.getElem?_append_left hb];exact r1,r2',(BG _ j).st r3 hc2⟩
    .have e3:(rows++r2).getD k []=r2.getD (k-rows.length) []:=by rw [List.getD_eq_getElem?_getD, List.getD_eq_getElem?_getD, List.getElem?_append_right (by omega)]
     rw [e3]
     refine ⟨hlen _ (by omega),λj hj=>?_⟩
     obtain ⟨u,r1,r2',r3⟩:=n4 (k-rows.length) j (by omega) hj
     refine ⟨u,?_,r2',(BG _ j).st r3 hc2⟩
     have hxl:xs.length=rows.length*sz:=h2.1
     have e4:k*sz=rows.length*sz+(k-rows.length)*sz:=by rw [<-Nat.add_mul];congr 1;omega
     rw [List.getElem?_append_right (by omega),hxl,show k*sz+j-rows.length*sz=(k-rows.length)*sz+j by omega]
     exact r1)
  (λb hb=>by
   have hb:DL (if id=id then _ else _)=some b:=hb
   simp only [if_pos] at hb
   exact q7 b hb) (Jo (x:=Cp) trivial hc2 hnp)
 have hfin:=hst'.put (GS.Le.refl s2) (dst:=some e) (λd hd'=>by cases hd';simpa [Nat.blt_eq] using hd) (v:=.slice (some ⟨g,0,none⟩) (rows.length+r2.length) cap) (r:=.own id) ⟨by simpa using hid,by simp⟩
 rw [Cs hs,Gk hf] at h
 simp only [CK hpl.ok] at hfin
 exact hK _ _ _ h ⟨s2,_,rfl,hfin⟩
def Hset(s:GS)(e:HE):Prop:=∃cs:Array Value,s.w.heap[e.b]? = some (.cells cs e.T (0,0))/\∀k,k<e.ds.length->s.S e.b k/\∃u,cs[k]? = some u/\u.oneCell'=true/\(BG e.ds k).rel s u
theorem EM{L:List HE}{x R:D}{av0:AV}(id t:Nat)(hh:hp[id]? = some (.obj (By L)))(hx:CE fr t=some av0)(hx0:Ed hp av0=some x)(hs:Do hp id .dead=some hp')(hR:∀s:GS,(∀e∈L,Hset s e)->∀v,x.rel s v->R.rel s v):AS.le ⟨fr,hp⟩ ⟨(t,.d R)::fr,hp'⟩:=by
 rw [Cs hs]
 intro s0 n a w ⟨s,ρ,hw,hst⟩
 obtain ⟨h1,-⟩:=Ec (hst.hp id _ hh)
 let s2:GS:=⟨λb k=>s.S b k\/∃e,e∈L/\e.b=b,s.tag,s.w⟩
 have hc2:GS.Chg s s2:=⟨Nat.le_refl _,λ_ _ hk=>.inl hk,λb cs T fz hb=>⟨cs,fz,hb,λ_ _=>rfl⟩⟩
 have hok2:s2.Ok:=⟨λb k hk=>hk.elim (hst.ok.lt b k) λ⟨e,he,hb⟩=>hb▸(h1 e he).lt,λb k hty=>.inl (hst.ok.safe b k hty)⟩
 have hle2:GS.LeX s0.mine s0.g s2:=⟨hst.le.os,hst.le.tape,hst.le.output,hst.le.block,hst.le.chg.trans hc2,λb k hb hm hk=>hk.elim (hst.le.old b k hb hm) λhk=>((hst.own id _ b hh hk).elim hm λh=>absurd hb (by omega)).elim,hst.le.tag,λ_=>hok2⟩
 have hst':=hst.upd (s':=s2) (o':=.dead) (ρ':=ρ) (f:=λx=>x) hle2 hok2 hc2 hh
  (λb _ hnb=>⟨rfl,λk=>⟨λhk=>hk.elim (λh=>h) λh=>absurd h hnb,λhk=>.inl hk⟩⟩) (λ_ _=>rfl) trivial (λb hb=>hb.elim) λav v h=>h.chg hc2
 rw [En,De] at hst'
 have hst':StI s0 n ⟨fr,hp.set id .dead⟩ a s2 ρ:=hst'
 refine ⟨s2,ρ,hw,⟨hst'.le,hst'.ok,λu av hu=>?_,hst'.sz,hst'.df,hst'.hp,hst'.sep,hst'.own⟩⟩
 rw [Dz] at hu
 split at hu
 .rename_i e
  cases hu
  subst e
  refine hR s2 (λe he=>?_) _ (x.st (BW hst.hp (hst.fr t _ hx) hx0) hc2)
  obtain ⟨hT,hS,cs,h2,h3,h4⟩:=h1 e he
  exact ⟨cs,h2,λk hk=>⟨.inr ⟨e,he,rfl⟩,by
   obtain ⟨u,g1,g2,g3⟩:=h4 k hk
   exact ⟨u,g1,g2,(BG e.ds k).st g3 hc2⟩⟩⟩
 .exact hst'.fr u av hu
theorem Ye(hs:Dt hp (.obj (By []))=some hp'):AS.le ⟨fr,hp⟩ ⟨fr,hp'⟩:=by
 rw [CI hs]
 intro s0 n a w ⟨s,ρ,hw,hst⟩
 have hlen:(hp++[Ow.obj (By [])]).length=hp.length+1:=by simp
 have hget:∀(i:Nat) (o:Ow),(hp++[Ow.obj (By [])])[i]? = some o->hp[i]? = some o\/o=Ow.obj (By []):=λi o hi=>by
  rw [List.getElem?_append] at hi
  split at hi
  .exact .inl hi
  .rename_i hge
   have:i-hp.length=0:=by
    have:=CL hi
    simp at this
    omega
   rw [this] at hi
   exact .inr (Option.some.inj hi).symm
 refine ⟨s,ρ,hw,hst.le,hst.ok,λt av ht=>?_,hst.sz,hst.df,λi o hi=>?_,λi j o o' hij hi hj b hb hb'=>?_,λi o b hi hb=>?_⟩
 .show AVr (hp++[Ow.obj (By [])]).length ρ s av _
  rw [hlen]
  exact (hst.fr t av ht).mono (Nat.le_succ _) λ_ _=>rfl
 .show OwR 0 (hp++[Ow.obj (By [])]).length ρ s i o
  rw [hlen]
  rcases hget i o hi with h1 | rfl
  .exact (hst.hp i o h1).mono (Nat.le_succ _) (λ_ _=>rfl) (CL h1)
  .exact ⟨λe he=>(by cases he),List.nodup_nil⟩
 .rcases hget i o hi with h1 | rfl
  .rcases hget j o' hj with h2 | rfl
   .exact hst.sep i j o o' hij h1 h2 b hb hb'
   .obtain ⟨e,he,_⟩:=hb'
    cases he
  .obtain ⟨e,he,_⟩:=hb
   cases he
 .rcases hget i o hi with h1 | rfl
  .exact hst.own i o b h1 hb
  .obtain ⟨e,he,_⟩:=hb
   cases he
end
theorem Hset.sl{s:GS}{e:HE}(h:Hset s e){T sz len cap:Nat}{rows:List (List D)}(hT:e.T=T)(hl:rows.length=len)(hlc:len<=cap)(hcm:cap<=9223372036854775807)(hlen:∀k,k<rows.length->(rows.getD k []).length=sz)(hds:∀k j,k<rows.length->j<sz->k*sz+j<e.ds.length/\BG e.ds (k*sz+j)=BG (rows.getD k []) j):(slD T sz rows).rel s (.slice (some ⟨e.b,0,none⟩) len cap):=by
 subst hT
 subst hl
 obtain ⟨cs,h1,h2⟩:=h
 refine ⟨_,cap,rfl,hlc,hcm,λ_=>⟨e.b,0,rfl,λk hk=>⟨hlen k hk,cs,_,h1,λj hj=>?_⟩⟩⟩
 rw [hlen k hk] at hj
 obtain ⟨g1,g2⟩:=hds k j hk hj
 obtain ⟨h3,u,h4,h5,h6⟩:=h2 _ g1
 rw [Nat.zero_add]
 exact ⟨h3,u,h4,h5,by rw [<-g2];exact h6⟩
end Go.Proofs.YtialdhnijjnpaaaGreat
