/- Part 18 of the proof of hilbertErrors_holds. No condition. -/
import Derived.Test.YtialdhnijjnpaaaGreatHe17
set_option linter.unusedSimpArgs false
set_option linter.unusedVariables false
set_option maxRecDepth 100000
namespace Go.Proofs.YtialdhnijjnpaaaGreat
open Go.RowKit
def NE (a b:Nat→Int) (k j:Nat):Int:=if j<k then min (a j) (b j) else a j
theorem RR (a b:Nat→Int) (k:Nat):Il (NE a b k) k (min (a k) (b k)) = NE a b (k+1):=by
 funext j
 simp only [Il,NE]
 rcases Nat.lt_trichotomy j k with h | h | h
 ·rw [if_neg (by omega),if_pos h,if_pos (by omega)]
 ·subst h;simp
 ·rw [if_neg (by omega),if_neg (by omega),if_neg (by omega)]
theorem TM (a b:Nat→Int) (k:Nat):NE a b k k = a k:=if_neg (Nat.lt_irrefl k)
def TO (a b:Nat→Int):Nat→Int:=fun j=>min (a j) (b j)
def Nf (a b:Nat→Int) (k j:Nat):Int:=if j<k then a j - b j else a j
theorem RF (a b:Nat→Int) (k:Nat):Il (Nf a b k) k (a k - b k) = Nf a b (k+1):=by
 funext j
 simp only [Il,Nf]
 rcases Nat.lt_trichotomy j k with h | h | h
 ·rw [if_neg (by omega),if_pos h,if_pos (by omega)]
 ·subst h;simp
 ·rw [if_neg (by omega),if_neg (by omega),if_neg (by omega)]
theorem Ti (a b:Nat→Int) (k:Nat):Nf a b k k = a k:=if_neg (Nat.lt_irrefl k)
def ZG (a b:Nat→Int):Nat→Int:=fun j=>a j - b j
theorem TR (a b:Nat→Int):Abs Tryz.prog 92 [Cc (AR a),Cc (AR b)] (Cc (AR (TO a b))):=by
 refine Ab Tryz.func92 fun s0=>?_
 rw [Tryz.ntmps92]
 apply Y1;refine Bx ?_;refine Bx ?_;refine Al ?_;refine Y0<|Aa<|Y1<|Wm<|Y0<|AWp.block ?_
 refine AT (fun mz σ=>∃ k,k≤8∧mz = 8 - k∧σ = ⟨[(2,.ptr 0 0),(3,.ptr 1 0),(4,.ptr 2 0),(6,.d (ex (.int .i64 (k:Nat))))],[.var 55 ((AR (NE a b k)).map .d),.var 55 ((AR b).map .d),.var 55 ((AR fun _=>0).map .d)]⟩) ?le ⟨0,by omega,rfl,rfl⟩ ?round
 case le=>exact Am (by exact Yp<|Yp<|Yp<|Yd<|FrLe.nil) (by exact Yv<|Yv<|Yv<|HpLe.nil)
 case round =>
  rintro mz _ ⟨k,hk,rfl,rfl⟩
  by_cases hlt:k<8
  ·have h1:=TM a b k
   apply Y1;refine Wq Ah ?_;refine Y0<|Aa ?_;refine Ct ?_;refine Ys<|Aa<|AWp.block<|Y1<|Wm<|Wa<|Y0 ?_
   refine Dr [[],[],[(10,1)],[(11,2)],[],[(13,4)],[(14,5)],[(12,3),(15,6)],[(9,0)]] [[],[],[1],[1,2],[],[4],[4,5],[1,2,3,4,5,6],[0,1,2,3,4,5,6,7]] ?_
   refine Xq Ae ?_;refine Xq Ae ?_;refine Xq Dc ?_;refine Xq DB ?_;refine Xq Ae ?_;refine Xq Dc ?_;refine Xq DB ?_;refine Xq XM ?_;refine Xq Dc ?_;refine ⟨_,rfl,?_⟩
   (refine GD (ao rfl) (ao rfl) rfl (Ad rfl) (by first | exact Dl rfl | exact One.sl | exact FO) (SetAt.mon (by first | omega | (simp;omega))) rfl ?_);apply AWl.nil;apply Aw;refine Yn<|AWp.region ?_;refine Wq Be ?_;refine Wm ?_;apply AWl.nil
   refine ALoop.next (8 - (k+1)) (by omega) ⟨k+1,by omega,rfl,rfl⟩ ?_
   exact Am (by exact Yp<|Yp<|Yp<|Yd<|FrLe.nil) (by exact HpLe.cons (Ef (by rw [h1,RR]))<|Yv<|Yv<|HpLe.nil)
  ·obtain rfl : k = 8 := by omega
   apply Y1;refine Wq Ao ?_;refine Y0<|Aa ?_;refine Cf ?_;apply AQ;apply AE;apply AF;apply AG;refine Yn<|Y1 ?_;refine Wq AW ?_;refine Sf ?_;apply Y0;apply Av
   exact Bz (Rets.of1 (ResV.cell rfl rfl (Ad rfl) rfl rfl rfl) (D.le.refl _))
theorem TQ (a b:Nat→Int) (h:Dv b a) (hb:In8 b 0 100000) (ha:In8 a 0 100000):Abs Tryz.prog 91 [Cc (AR a),Cc (AR b)] (Cs [Cc (AR (ZG a b)),ex (.bool true)]):=by
 refine Ab Tryz.func91 fun s0=>?_
 rw [Tryz.ntmps91]
 apply Y1;refine Bx ?_;refine Bx ?_;refine Al ?_;refine Wa<|Y0<|Aa<|Y1 ?_;refine Wq AW ?_;refine Wq AW ?_;refine Wq (Ak (NH b a h)) ?_;refine Wq Ex ?_;apply Y0;refine Cf ?_;refine Ys<|Aa<|Y1<|Wm<|Y0<|AWp.block ?_
 refine AT (fun mz σ=>∃ k,k≤8∧mz = 8 - k∧σ = ⟨[(2,.ptr 0 0),(3,.ptr 1 0),(4,.ptr 2 0),(12,.d (ex (.int .i64 (k:Nat))))],[.var 55 ((AR (Nf a b k)).map .d),.var 55 ((AR b).map .d),.var 55 ((AR fun _=>0).map .d)]⟩) ?le ⟨0,by omega,rfl,rfl⟩ ?round
 case le=>exact Am (by exact Yp<|Yp<|Yp<|Yd<|FrLe.nil) (by exact Yv<|Yv<|Yv<|HpLe.nil)
 case round =>
  rintro mz _ ⟨k,hk,rfl,rfl⟩
  by_cases hlt:k<8
  ·have h1:=Ti a b k
   have g1:=ha k hlt
   have g2:=hb k hlt
   apply Y1;refine Wq Ah ?_;refine Y0<|Aa ?_;refine Ct ?_;refine Ys<|Aa<|AWp.block<|Y1<|Wm<|Wa<|Y0 ?_
   refine Dr [[],[(15,0)],[(16,1)],[],[(18,3)],[(19,4)],[(17,2),(20,5)],[(15,0)]] [[],[0],[0,1],[],[3],[3,4],[0,1,2,3,4,5],[0,1,2,3,4,5,6]] ?_
   refine Xq Ae ?_;refine Xq Dc ?_;refine Xq DB ?_;refine Xq Ae ?_;refine Xq Dc ?_;refine Xq DB ?_;refine Xq Ht ?_;refine Xq Dc ?_;refine ⟨_,rfl,?_⟩
   (refine GD (ao rfl) (ao rfl) rfl (Ad rfl) (by first | exact Dl rfl | exact One.sl | exact FO) (SetAt.mon (by first | omega | (simp;omega))) rfl ?_);apply AWl.nil;apply Aw;refine Yn<|AWp.region ?_;refine Wq Be ?_;refine Wm ?_;apply AWl.nil
   refine ALoop.next (8 - (k+1)) (by omega) ⟨k+1,by omega,rfl,rfl⟩ ?_
   exact Am (by exact Yp<|Yp<|Yp<|Yd<|FrLe.nil) (by exact HpLe.cons (Ef (by rw [h1,RF]))<|Yv<|Yv<|HpLe.nil)
  ·obtain rfl : k = 8 := by omega
   apply Y1;refine Wq Ao ?_;refine Y0<|Aa ?_;refine Cf ?_;apply AQ;apply AE;apply AF;apply AG;refine Yn<|Y1 ?_;refine Wq AW ?_;refine Sf ?_;refine Wa<|Y0 ?_;apply Av
   exact Bz (BU (ResV.cell rfl rfl (Ad rfl) rfl rfl rfl) (ResV.tmp rfl rfl) (Bv (D.le.refl _) (D.le.refl _)))
theorem VG (a b:Nat→Int):Dv (TO a b) a:=fun j _=>Int.min_le_left _ _
structure PureQ (P : Program) (hp:List Ow) (o:Oper) (arg:Operand→AV) (r:AV):Prop where
 run:∀ (base:Nat) (s:GS) (ρ:Nat→Value) (ev:Operand→Value),s.Ok→base≤s.w.heap.size→HpOk base ρ s hp→(∀ x,x∈o.op.operands→AVr hp.length ρ s (arg x) (ev x))→∃ v,(∀ w,(execOp ev o).run P w = .ok (.value v) w)∧AVr hp.length ρ s r v
section
variable {P : Program} {hp:List Ow} {o:Oper} {arg:Operand→AV}
theorem PureQ.move {x : Operand} {r:AV} (hop:o.op = .move x) (hx:arg x = r):PureQ P hp o arg r:=by
 subst hx
 exact ⟨fun base s ρ ev hok hbs hhp h=>⟨ev x,fun w=>by simp [execOp,hop],h x (by rw [hop];simp [Op.operands])⟩⟩
theorem PureQ.add {T U:TypeId} {x y:Operand} {a b:Int} (hop:o.op = .binOp .add T x y U) (hx:arg x = .d (ex (.int .i64 a))) (hy:arg y = .d (ex (.int .i64 b))) (h1:-9223372036854775808≤a+b) (h2:a+b≤9223372036854775807):PureQ P hp o arg (.d (ex (.int .i64 (a+b)))):=by
 refine ⟨fun base s ρ ev hok hbs hhp h=>?_⟩
 have e1:=h x (by rw [hop];simp [Op.operands])
 have e2:=h y (by rw [hop];simp [Op.operands])
 rw [hx] at e1;rw [hy] at e2
 have e1:ev x = .int .i64 a:=e1
 have e2:ev y = .int .i64 b:=e2
 have e:IntKind.i64.wrap (a+b) = a+b:=IntWalk.i64_in _ (by omega)
 exact ⟨.int .i64 (a+b),fun w=>by simp [execOp,hop,e1,e2,eqGuard,binOp,Op.intArith,e],rfl⟩
theorem PureQ.slice {x : Operand} {t:TypeId} {e n b n' b' T sz:Nat} {d:TypeDesc} {z z':Value} {lo hi:Option Operand} {rows:List (List D)} {i j:Int} (hop:o.op = .slice t x lo hi none) (hx:DQ hp (arg x) = some (slD T sz rows)) (ht:Tab P t (.slice e) n b z) (he:Tab P e d n' b' z') (hsz:n' = sz) (hlo:(∃ y,lo = some y∧arg y = .d (ex (.int .i64 i)))∨(lo = none∧i = 0)) (hhi:(∃ y,hi = some y∧arg y = .d (ex (.int .i64 j)))∨(hi = none∧j = rows.length)) (h0:0≤i) (hij:i≤j) (hj:j≤rows.length):PureQ P hp o arg (.d (slD T sz ((rows.take j.toNat).drop i.toNat))):=by
 refine ⟨fun base s ρ ev hok hbs hhp h=>?_⟩
 obtain ⟨A,c,e1,h1,h2,h3⟩:=BL hhp (h x (by rw [hop];simp [Op.operands])) hx
 subst hsz
 obtain ⟨i,rfl⟩:=Int.eq_ofNat_of_zero_le h0
 obtain ⟨j,rfl⟩:=Int.eq_ofNat_of_zero_le (Int.le_trans h0 hij)
 have hij':i≤j:=by omega
 have hj':j≤rows.length:=by omega
 have elo:∃ lo',lo.map ev = lo'∧((lo' = some (.int .i64 i))∨(lo' = none∧i = 0)):=by
  rcases hlo with ⟨y,rfl,hy⟩ | ⟨rfl,hi0⟩
  ·have h5 := h y (by rw [hop]; simp [Op.operands])
   rw [hy] at h5
   exact ⟨_,rfl,.inl (by show some (ev y) = _;rw [show ev y = _ from h5])⟩
  ·exact ⟨_,rfl,.inr ⟨rfl,by omega⟩⟩
 have ehi:∃ hi',hi.map ev = hi'∧((hi' = some (.int .i64 j))∨(hi' = none∧j = rows.length)):=by
  rcases hhi with ⟨y,rfl,hy⟩ | ⟨rfl,hi0⟩
  ·have h5 := h y (by rw [hop]; simp [Op.operands])
   rw [hy] at h5
   exact ⟨_,rfl,.inl (by show some (ev y) = _;rw [show ev y = _ from h5])⟩
  ·exact ⟨_,rfl,.inr ⟨rfl,by omega⟩⟩
 obtain ⟨lo',l1,l2⟩:=elo
 obtain ⟨hi',r1,r2⟩:=ehi
 have hjc:(j:Int)≤c:=by omega
 have hic:(i:Int)≤j:=by omega
 have hb:∀ w,(Instr.sliceBounds true rows.length c lo' hi' none).run P w = .ok (i,j,c) w:=fun w=>by
  rcases l2 with rfl | ⟨rfl,rfl⟩ <;> rcases r2 with rfl | ⟨rfl,rfl⟩ <;> simp [Instr.sliceBounds,Instr.sliceBound,asIntOf,hjc,hic,hij',hj',h1]
  all_goals first | omega | simp [hij',hj',h1] | skip
 have hrun:∀ w,(execOp ev o).run P w = .ok (.value (.slice (if c = i then A else A.map (·.add (i*n'))) (j - i) (c - i))) w:=fun w=>by
  simp only [execOp,hop,l1,r1,e1,Option.map_none,Instr.sliceAt,Sem.run_bind,run_underlying ht.und,Result.andThen_ok,Instr.slice,hb,he.run_size,Sem.run_pure]
 have hlen:((rows.take (j:Int).toNat).drop (i:Int).toNat).length = j - i:=by simp;omega
 refine ⟨_,hrun,(if c = i then A else A.map (·.add (i*n'))),c - i,by rw [hlen],by rw [hlen];omega,by omega,fun hp=>?_⟩
 rw [hlen] at hp
 obtain ⟨g,p,rfl,h5⟩:=h3 (by omega)
 refine ⟨g,p+i*n',?_,fun k hk=>?_⟩
 ·rw [if_neg (by omega)]
  simp [Addr.add_lit]
 ·rw [hlen] at hk
  rw [show (j:Int).toNat = j from rfl,show (i:Int).toNat = i from rfl]
  rw [Ln,Lm (by omega)]
  have:=h5 (i+k) (by omega)
  rw [Nat.add_mul,← Nat.add_assoc] at this
  exact this
theorem OM {α : Type} {x y:Operand} {t:TypeId} {e n b n' b' T sz i:Nat} {d:TypeDesc} {z z':Value} {f:α→List D} {l:List α} (hop:o.op = .slice t x (some y) none none) (hx:DQ hp (arg x) = some (slD T sz (l.map f))) (hy:arg y = .d (ex (.int .i64 (i:Nat)))) (ht:Tab P t (.slice e) n b z) (he:Tab P e d n' b' z') (hsz:n' = sz) (hi:i≤l.length):PureQ P hp o arg (.d (slD T sz ((l.drop i).map f))):=by
 have h:=PureQ.slice (P:=P) (hp:=hp) (i:=(i:Nat)) (j:=((l.map f).length:Nat)) hop hx ht he hsz (.inl ⟨y,rfl,hy⟩) (.inr ⟨rfl,rfl⟩) (by omega) (by simp;omega) (by omega)
 have e1:((l.map f).take (((l.map f).length:Nat):Int).toNat).drop ((i:Nat):Int).toNat = (l.drop i).map f:=by
  rw [show (((l.map f).length:Nat):Int).toNat = (l.map f).length from rfl,List.take_length,List.map_drop]
  rfl
 rwa [e1] at h
end
structure AWy (P : Program) (s0:An) (n:Nat) (ops:Array Oper) (Q:Exit→AS→Prop) (fuel:Nat) (listed:Array Bool) (σ:AS):Prop where
 run:∀ a w,St s0 n σ a w→wpAny P .any ops (EQ s0 n (OnlyN Q)) fuel listed a w
def Pj (ops : Array Oper):Array Bool→List Nat→Bool
 | listed,[]=>Region.ready .any ops listed == []
 | listed,j :: js=>Region.ready .any ops listed == [j] && Pj ops (listed.setIfInBounds j true) js
def Ox (ops : Array Oper) (js:List Nat):Bool:=js.all fun j=>(ops[j]?).isSome
def Mg (ops : Array Oper):List Nat→List Oper
 | []=>[]
 | j :: js=>match ops[j]? with
  | some o=>o :: Mg ops js
  | none=>[]
theorem JF {ops : Array Oper}:∀ {js:List Nat},Ox ops js = true→js.map (fun j=>ops[j]?) = (Mg ops js).map some
 | [],_=>rfl
 | j :: js,h=>by
  simp only [Ox,List.all_cons,Bool.and_eq_true] at h
  obtain ⟨o,ho⟩:=Option.isSome_iff_exists.1 h.1
  have ih:=JF (js:=js) h.2
  simp only [Mg,ho,List.map_cons,ih]
section
variable {P : Program} {s0:An} {n:Nat} {ops:Array Oper} {Q:Exit→AS→Prop} {fr:List (Nat × AV)} {hp:List Ow}
theorem AWp.any {id : Nat} {l:List Oper} {σ:AS} (hm:P.follows .mixedOrders = true) (h:AWy P s0 n l.toArray Q l.toArray.size (Array.replicate l.toArray.size false) σ):AWp P s0 n (.region id l.toArray true) Q σ:=by
 refine ⟨fun a w ⟨s,ρ,hw,hst⟩=>?_⟩
 subst hw
 have hst':=hst.put (Ky s) (dst:=none) (fun d hd=>by cases hd) (v:=undef) (r:=.d Cl) trivial
 have h1:=h.run a s.w.drew ⟨s.dr,ρ,rfl,hst'⟩
 exact wp_mono (wp_region_any hm h1) fun ex a' w' ⟨σ',hq,hs⟩=>by
  obtain ⟨rfl,hq⟩:=hq
  exact ⟨σ',hq,hs⟩
theorem Eu {fuel : Nat} {listed:Array Bool} (i:Nat) {o:Oper} {d:Nat} {r:AV} (hi:ops[i]? = some o) (hg:o.guard = none) (hdst:o.dst = some d) (hs:Region.noSelect ops = true) (hf:Region.free .any ops listed i = true) (hr:(Region.ready .any ops listed).contains i = true) (hd:Nat.blt d n = true) (hq:PureQ P hp o (AS.arg ⟨fr,hp⟩) r) (h:AWy P s0 n ops Q fuel (listed.setIfInBounds i true) ⟨(d,r) :: fr,hp⟩):AWy P s0 n ops Q (fuel+1) listed ⟨fr,hp⟩:=by
 refine ⟨fun a w ⟨s,ρ,hw,hst⟩=>?_⟩
 subst hw
 obtain ⟨v,h1,h2⟩:=hq.run 0 s ρ a.eval hst.ok (Nat.zero_le _) hst.hp fun x _=>hst.arg x
 have hst':=hst.put (GS.Le.refl s) (dst:=some d) (fun d' hd'=>by cases hd';simpa [Nat.blt_eq] using hd) h2
 refine wpAny_take hi hs hf hr (fun c a w h=>?_) (.inl ⟨by simp [Region.wanted,hg],h1⟩) ?_
 ·obtain ⟨_,h,_⟩:=h
  have:=h.how
  cases this
 ·rw [hdst]
  exact h.run _ _ ⟨s,ρ,rfl,hst'⟩
theorem IY {ops : Array Oper} {Q:Exit→Act→World→Prop}:∀ (js:List Nat) (L:List Oper) (listed:Array Bool) (a:Act) (w:World),Pj ops listed js = true→js.map (fun j=>ops[j]?) = L.map some→wpList P ops Q L a w→wpAny P .any ops Q js.length listed a w
 | [],[],listed,a,w,hs,_,h=>⟨by simpa [Pj] using hs,h⟩
 | [],_ :: _,_,_,_,_,hl,_=>by simp at hl
 | _ :: _,[],_,_,_,_,hl,_=>by simp at hl
 | j :: js,o :: L,listed,a,w,hs,hl,h=>by
  simp only [Pj,Bool.and_eq_true,beq_iff_eq] at hs
  simp only [List.map_cons,List.cons.injEq] at hl
  refine wpAny_all hs.1 (by simp) fun i hi=>?_
  obtain rfl:i = j:=by simpa using hi
  unfold wpList at h
  unfold wpOp
  rw [hl.1]
  simp only
  split
  ·rename_i hw
   rw [if_pos hw] at h
   exact h.imp (Oper.wp_mono fun a w h=>IY js L _ a w hs.2 hl.2 h) fun h=>h
  ·rename_i hw
   rw [if_neg hw] at h
   exact IY js L _ _ w hs.2 hl.2 h
end
end Go.Proofs.YtialdhnijjnpaaaGreat
