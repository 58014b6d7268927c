/- Part 18 of the proof of hilbertDegrees_holds. No condition. -/
import Derived.Test.YtialdhnijjnpaaaGreatQe17
set_option linter.unusedSimpArgs false
set_option linter.unusedVariables false
set_option maxRecDepth 100000
namespace Go.Proofs.YtialdhnijjnpaaaGreat
open Go.RowKit Go.Sort
def HD (x : Nat→Int):List Value:=(c8 x).toList
def ZZ (x y:Nat→Int):Int:=GC x y
theorem LO (a b:Nat→Int):lx a b = GC a b:=by simp [lx,EP,EI]
theorem OG (x : Nat→Int) {j:Nat} (h:j<8):(HD x)[j]! = .int .i64 (x j):=by
 rcases lt8 h with rfl | rfl | rfl | rfl | rfl | rfl | rfl | rfl <;> rfl
theorem VY : SWO (ltOf ZZ) where
 irrefl x:=by
  have:=MN x
  rw [LO] at this
  simp [ltOf,ZZ,this]
 trans x y z h1 h2:=by
  have h1:GC x y<0:=of_decide_eq_true h1
  have h2:GC y z<0:=of_decide_eq_true h2
  show decide (GC x z<0) = true
  rw [decide_eq_true_eq]
  rw [← LO] at h1 h2 ⊢
  have:=UG (a:=z) (b:=y) (c:=x) (by rw [Ei];omega) (by rw [Ei];omega)
  rw [Ei]
  omega
 ntrans x y z h1 h2:=by
  have h1:¬ GC x y<0:=of_decide_eq_false h1
  have h2:¬ GC y z<0:=of_decide_eq_false h2
  show decide (GC x z<0) = false
  rw [decide_eq_false_iff_not]
  have:=(Hu (R:=[]) (a:=x) (b:=y) (c:=z) (by rw [show EP [] x y = GC x y from LO x y];omega) (by rw [show EP [] y z = GC y z from LO y z];omega)).1
  rw [show EP [] x z = GC x z from LO x z] at this
  omega
theorem SX (g c:Nat) (d:Array (Nat→Int)) (w:World) (hH:HoldsK HD 8 w g 0 d) (hgl:g<w.heap.size) (hn:d.size<4611686018427387904) :
  Calls Tryz.prog 124 #[.slice (some ⟨g,0,none⟩) d.size c,.func (.func 74) #[] #[]] w fun e w'=>e = .returned (.tuple #[])∧∃ d' m os,PermIn 0 d.size d d'∧SortedIn (ltOf ZZ) 0 d.size d'∧w' = sortWorldK HD 8 w g 0 m d' os:=by
 have eg:∀ args w,(callFunc 74 args).run Tryz.prog w = .ok (.enter 74 args) w:=enters_of Tryz.func74 (by kernel_rfl) rfl
 have hcmp:CmpLays Tryz.prog 74 #[] HD 8 ZZ g 0 d.size w:=fun m os dk hdk x y=>(Sv x y _).mono fun e w' ⟨he,hg⟩=>⟨he,hg.grow⟩
 refine (AnyQ.slices_SortFunc Tryz.sortMono 8 Tryz.isAgg55 Tryz.sizeOf55 HD (fun _=>rfl) (fun x v hv=>by simp [HD,c8] at hv;rcases hv with rfl | rfl | rfl | rfl | rfl | rfl | rfl | rfl <;> rfl) ZZ VY 74 #[] g 0 c d w eg hcmp hH hgl hn).mono ?_
 rintro e w' ⟨rfl,d',q,os,hp,hs,rfl⟩
 exact ⟨rfl,d',q,os,hp,hs,rfl⟩
def Ee (l : Ae):List D:=(l.map AL).flatten
theorem CY : ∀ l:Ae,(Ee l).length = l.length*8
 | []=>rfl
 | a :: l=>by
  show (AL a ++ Ee l).length = _
  rw [List.length_append,CY l,List.length_cons,Nat.succ_mul,Nat.add_comm]
  rfl
theorem IH : ∀ (l:Ae) {i j:Nat},i<l.length→j<8→Bu (Ee l) (i*8+j) = ex (.int .i64 (Be l i j))
 | a :: l,0,j,_,hj=>by
  show Bu (AL a ++ Ee l) (0*8+j) = _
  rw [Nat.zero_mul,Nat.zero_add]
  have:Bu (AL a ++ Ee l) j = Bu (AL a) j:=by
   simp only [Bu]
   rw [List.getD_eq_getElem?_getD,List.getD_eq_getElem?_getD,List.getElem?_append_left (by rw [Ck];exact hj)]
  rw [this,Ie hj]
  rfl
 | a :: l,i+1,j,hi,hj=>by
  have ih:=IH l (i:=i) (j:=j) (by simpa using hi) hj
  show Bu (AL a ++ Ee l) ((i+1)*8+j) = _
  have:Bu (AL a ++ Ee l) ((i+1)*8+j) = Bu (Ee l) (i*8+j):=by
   simp only [Bu]
   rw [List.getD_eq_getElem?_getD,List.getD_eq_getElem?_getD,List.getElem?_append_right (by rw [Ck];omega),Ck,show (i+1)*8+j - 8 = i*8+j by omega]
  rw [this,ih]
  rfl
theorem LA (l : Ae) (g c:Nat) (hn:l.length≤1000000):Con Tryz.prog 124 [.d (sX g l.length c),.d (ex (.func (.func 74) #[] #[]))] [.obj (Bk [⟨g,55,Ee l⟩])] []
  (fun r hp'=>∃ s:Ae,s.Perm l∧(s.Pairwise fun a b=>lx a b≤0)∧r = .d Cl∧hp' = [.obj (Bk [⟨g,55,Ee s⟩])]):=by
 refine ⟨As Tryz.func124 (by kernel_rfl) (by kernel_rfl),fun s ρ vs hok hhp hsep hl hv=>?_⟩
 have e1:vs.getD 0 undef = .slice (some ⟨g,0,none⟩) l.length c:=hv 0 _ rfl
 have e2:vs.getD 1 undef = .func (.func 74) #[] #[]:=hv 1 _ rfl
 have evs:vs.toArray = #[.slice (some ⟨g,0,none⟩) l.length c,.func (.func 74) #[] #[]]:=by
  match vs,hl with
  | [a,b],_ =>
   have e1:a = _:=e1
   have e2:b = _:=e2
   rw [e1,e2]
 obtain ⟨h1,_⟩:=Dj (hhp 0 _ rfl)
 obtain ⟨hT,hS,cs,hg,hlc,hcd⟩:=h1 _ List.mem_cons_self
 replace hS:∀ k,¬ s.S g k:=hS
 replace hg:s.w.heap[g]? = some (.cells cs 55 (0,0)):=hg
 replace hlc:(Ee l).length≤cs.size:=hlc
 replace hcd:∀ k,k<(Ee l).length→∃ u,cs[k]? = some u∧u.oneCell' = true∧(Bu (Ee l) k).rel s u:=hcd
 rw [CY] at hlc hcd
 have hcell:∀ i j,i<l.length→j<8→cs[i*8+j]? = some (.int .i64 (Be l i j)):=fun i j hi hj=>by
  obtain ⟨u,g1,_,g3⟩:=hcd (i*8+j) (by omega)
  rw [IH l hi hj] at g3
  rw [g1]
  exact congrArg some g3
 have hlt:g<s.w.heap.size:=At hg
 obtain ⟨d,hd⟩:∃ d:Array (Nat→Int),d = l.toArray:=⟨_,rfl⟩
 have hds:d.size = l.length:=by rw [hd];simp
 have hdg:∀ i,i<l.length→d[i]! = Be l i:=fun i hi=>by
  rw [getElem!_pos d i (by omega),Be,List.getD_eq_getElem?_getD,List.getElem?_eq_getElem hi]
  simp [hd]
 have hH:HoldsK HD 8 s.w g 0 d:=by
  intro q hq
  rw [size_flatK,hds] at hq
  rw [get_flatK _ _ _ _ (by rw [hds];exact hq),hdg _ (by omega),OG _ (by omega),Nat.zero_add]
  have:=hcell (q / 8) (q % 8) (by omega) (by omega)
  rw [show q / 8*8+q % 8 = q by omega] at this
  exact ⟨(AI hg).trans this,Blk.frozen hg q⟩
 have hcon:=SX g c d s.w hH hlt (by omega)
 rw [hds] at hcon
 rw [evs]
 refine hcon.mono ?_
 rintro e w' ⟨rfl,d',m,os,hp,hs,rfl⟩
 have hds':d'.size = l.length:=hp.1.trans hds
 have hnew:=Ji HD 8 s.w g 0 m d' os hg
 have hfar:∀ b,b<s.w.heap.size→b ≠ g→(sortWorldK HD 8 s.w g 0 m d' os).heap[b]? = s.w.heap[b]? := fun b hb hne=>Jj HD 8 s.w g 0 m d' os hb hne
 have hsz:s.w.heap.size≤(sortWorldK HD 8 s.w g 0 m d' os).heap.size:=size_sortWorldK_c HD 8 s.w g 0 m d' os
 let s':GS:=⟨fun b k=>s.S b k∨(s.w.heap.size≤b∧b<(sortWorldK HD 8 s.w g 0 m d' os).heap.size),s.tag,sortWorldK HD 8 s.w g 0 m d' os⟩
 have hc:GS.Chg s s':=⟨hsz,fun _ _ h=>.inl h,fun b cs' T fz hb=>by
  by_cases e:b = g
  ·subst e
   rw [hg] at hb
   cases hb
   exact ⟨_,_,hnew,fun k hk=>absurd hk (hS k)⟩
  ·exact ⟨cs',fz,(hfar b (At hb) e).trans hb,fun _ _=>rfl⟩⟩
 have hok':s'.Ok:=⟨fun b k hb=>hb.elim (fun h=>Nat.lt_of_lt_of_le (hok.lt b k h) hsz) fun h=>h.2,fun b k ⟨c2,fz,hb⟩=>by
  replace hb:(sortWorldK HD 8 s.w g 0 m d' os).heap[b]? = some (.cells c2 136 fz):=hb
  rcases Nat.lt_or_ge b s.w.heap.size with h1 | h1
  ·by_cases e:b = g
   ·rw [e,hnew] at hb
    exact absurd (Obj.cells.inj (Option.some.inj hb)).2.1 (by decide)
   ·exact .inl (hok.safe b k ⟨c2,fz,(hfar b h1 e).symm.trans hb⟩)
  ·exact .inr ⟨h1,At hb⟩⟩
 have e3:(d'.extract 0 l.length).toList = d'.toList:=by
  rw [← hds']
  simp
 have e4:(d.extract 0 l.length).toList = l:=by
  rw [← hds,hd]
  simp
 have hperm:d'.toList.Perm l:=by
  have:=hp.2.2
  rw [e3,e4] at this
  exact this
 refine ⟨_,rfl,s',ρ,.d Cl,[.obj (Bk [⟨g,55,Ee d'.toList⟩])],⟨d'.toList,hperm,?_,rfl,rfl⟩,rfl,trivial,⟨⟨rfl,rfl,rfl,fun k hk hm=>hfar k hk fun e=>hm ⟨0,_,rfl,⟨_,List.mem_cons_self,e.symm⟩⟩,hc,fun b k hb _ hk=>hk.elim (fun h=>h) fun h=>absurd hb (by omega),fun _ _=>rfl,fun _=>hok'⟩,hok',fun i o hi=>?_,fun i j o o' hij hi hj=>?_,fun i o b hi hb=>?_,fun _ _ _=>rfl,Nat.le_refl _⟩⟩
 ·rw [List.pairwise_iff_getElem]
  intro i j h1 h2 hij
  have:=hs i j (Nat.zero_le _) hij (by rw [Array.length_toList] at h2;omega)
  have this:¬ GC (d'[j]!) (d'[i]!)<0:=of_decide_eq_false this
  rw [Array.length_toList] at h1 h2
  rw [getElem!_pos d' i h1,getElem!_pos d' j h2] at this
  rw [← LO,Ei] at this
  simp only [Array.getElem_toList]
  omega
 ·match i,hi with
  | 0,hi =>
   cases hi
   refine ⟨fun x hx=>?_,by simp⟩
   rw [List.mem_singleton.1 hx]
   refine ⟨(by decide:(55:TypeId) ≠ 136),fun k hk=>hk.elim (hS k) fun h=>absurd hlt (by show ¬ g<_;have:s.w.heap.size≤g:=h.1;omega),_,hnew,?_,fun k hk=>?_⟩
   ·show (Ee d'.toList).length≤_
    rw [CY,Array.length_toList,hds']
    simpa [putCells] using hlc
   ·have hk:k<(Ee d'.toList).length:=hk
    rw [CY,Array.length_toList,hds'] at hk
    have hkd:k / 8<l.length:=by omega
    have e5:Bu (Ee d'.toList) k = ex (.int .i64 (Be d'.toList (k / 8) (k % 8))):=by
     have:=IH d'.toList (i:=k / 8) (j:=k % 8) (by rw [Array.length_toList];omega) (by omega)
     rwa [show k / 8*8+k % 8 = k by omega] at this
    refine ⟨.int .i64 (Be d'.toList (k / 8) (k % 8)),?_,rfl,by show (Bu (Ee d'.toList) k).rel s' _;rw [e5];rfl⟩
    have h6:k<cs.size:=by omega
    unfold putCells
    rw [Array.getElem?_mapIdx,Array.getElem?_eq_getElem h6]
    simp only [Option.map_some,size_flatK,hds']
    rw [if_pos (by omega),Nat.sub_zero,get_flatK _ _ _ _ (by omega),OG _ (by omega)]
    congr 2
    rw [getElem!_pos d' (k / 8) (by omega),Be,List.getD_eq_getElem?_getD,List.getElem?_eq_getElem (by rw [Array.length_toList];omega)]
    simp
 ·match i,j,hi,hj with
  | 0,0,_,_=>exact absurd rfl hij
 ·match i,hi with
  | 0,hi =>
   cases hi
   obtain ⟨x,hx,e⟩:=hb
   rw [List.mem_singleton.1 hx] at e
   exact .inl ⟨0,_,rfl,⟨_,List.mem_cons_self,e⟩⟩
def Oa (a b:Nat→Int) (k j:Nat):Int:=if j<k then min (a j) (b j) else a j
theorem Ss (a b:Nat→Int) (k:Nat):Hq (Oa a b k) k (min (a k) (b k)) = Oa a b (k+1):=by
 funext j
 simp only [Hq,Oa]
 rcases Nat.lt_trichotomy j k with h | h | h
 ·rw [if_neg (by omega),if_pos h,if_pos (by omega)]
 ·subst h;simp
 ·rw [if_neg (by omega),if_neg (by omega),if_neg (by omega)]
theorem Ux (a b:Nat→Int) (k:Nat):Oa a b k k = a k:=if_neg (Nat.lt_irrefl k)
def Uz (a b:Nat→Int):Nat→Int:=fun j=>min (a j) (b j)
def NA (a b:Nat→Int) (k j:Nat):Int:=if j<k then a j - b j else a j
theorem Sg (a b:Nat→Int) (k:Nat):Hq (NA a b k) k (a k - b k) = NA a b (k+1):=by
 funext j
 simp only [Hq,NA]
 rcases Nat.lt_trichotomy j k with h | h | h
 ·rw [if_neg (by omega),if_pos h,if_pos (by omega)]
 ·subst h;simp
 ·rw [if_neg (by omega),if_neg (by omega),if_neg (by omega)]
theorem TP (a b:Nat→Int) (k:Nat):NA a b k k = a k:=if_neg (Nat.lt_irrefl k)
def A0F (a b:Nat→Int):Nat→Int:=fun j=>a j - b j
theorem UE (a b:Nat→Int):Abs Tryz.prog 92 [BX (AL a),BX (AL b)] (BX (AL (Uz a b))):=by
 refine Ab Tryz.func92 fun s0=>?_
 rw [Tryz.ntmps92]
 apply Y1;refine Bx ?_;refine Bx ?_;refine Al ?_;refine Y0<|Ac<|Y1<|Wm<|Y0<|AWp.block ?_
 refine AO (fun mz σ=>∃ k,k≤8∧mz = 8 - k∧σ = ⟨[(2,.ptr 0 0),(3,.ptr 1 0),(4,.ptr 2 0),(6,.d (ex (.int .i64 (k:Nat))))],[.var 55 ((AL (Oa a b k)).map .d),.var 55 ((AL b).map .d),.var 55 ((AL fun _=>0).map .d)]⟩) ?le ⟨0,by omega,rfl,rfl⟩ ?round
 case le=>exact Aj (by exact Yp<|Yp<|Yp<|Yd<|FrLe.nil) (by exact Yv<|Yv<|Yv<|HpLe.nil)
 case round =>
  rintro mz _ ⟨k,hk,rfl,rfl⟩
  by_cases hlt:k<8
  ·have h1:=Ux a b k
   apply Y1;refine Wq Am ?_;refine Y0<|Ac ?_;refine Ct ?_;refine Ys<|Ac<|AWp.block<|Y1<|Wm<|Wa<|Y0 ?_
   refine Dr [[],[],[(10,1)],[(11,2)],[],[(13,4)],[(14,5)],[(12,3),(15,6)],[(9,0)]] [[],[],[1],[1,2],[],[4],[4,5],[1,2,3,4,5,6],[0,1,2,3,4,5,6,7]] ?_
   refine Xq Af ?_;refine Xq Af ?_;refine Xq BG ?_;refine Xq CO ?_;refine Xq Af ?_;refine Xq BG ?_;refine Xq CO ?_;refine Xq YP ?_;refine Xq BG ?_;refine ⟨_,rfl,?_⟩
   (refine ED (ao rfl) (ao rfl) rfl (Aa rfl) (by first | exact CH rfl | exact One.sl | exact Fw) (SetAt.mon (by first | omega | (simp;omega))) rfl ?_);apply AWl.nil;apply Aq;refine Yn<|AWp.region ?_;refine Wq AM ?_;refine Wm ?_;apply AWl.nil
   refine ALoop.next (8 - (k+1)) (by omega) ⟨k+1,by omega,rfl,rfl⟩ ?_
   exact Aj (by exact Yp<|Yp<|Yp<|Yd<|FrLe.nil) (by exact HpLe.cons (Dp (by rw [h1,Ss]))<|Yv<|Yv<|HpLe.nil)
  ·obtain rfl : k = 8 := by omega
   apply Y1;refine Wq Ar ?_;refine Y0<|Ac ?_;refine Cf ?_;apply AK;apply AA;apply AB;apply AC;refine Yn<|Y1 ?_;refine Wq AQ ?_;refine Sf ?_;apply Y0;apply Aw
   exact BZ (Rets.of1 (ResV.cell rfl rfl (Aa rfl) rfl rfl rfl) (D.le.refl _))
theorem UD (a b:Nat→Int) (h:Dv b a) (hb:In8 b 0 100000) (ha:In8 a 0 100000):Abs Tryz.prog 91 [BX (AL a),BX (AL b)] (DV [BX (AL (A0F a b)),ex (.bool true)]):=by
 refine Ab Tryz.func91 fun s0=>?_
 rw [Tryz.ntmps91]
 apply Y1;refine Bx ?_;refine Bx ?_;refine Al ?_;refine Wa<|Y0<|Ac<|Y1 ?_;refine Wq AQ ?_;refine Wq AQ ?_;refine Wq (Ak (Of b a h)) ?_;refine Wq Ec ?_;apply Y0;refine Cf ?_;refine Ys<|Ac<|Y1<|Wm<|Y0<|AWp.block ?_
 refine AO (fun mz σ=>∃ k,k≤8∧mz = 8 - k∧σ = ⟨[(2,.ptr 0 0),(3,.ptr 1 0),(4,.ptr 2 0),(12,.d (ex (.int .i64 (k:Nat))))],[.var 55 ((AL (NA a b k)).map .d),.var 55 ((AL b).map .d),.var 55 ((AL fun _=>0).map .d)]⟩) ?le ⟨0,by omega,rfl,rfl⟩ ?round
 case le=>exact Aj (by exact Yp<|Yp<|Yp<|Yd<|FrLe.nil) (by exact Yv<|Yv<|Yv<|HpLe.nil)
 case round =>
  rintro mz _ ⟨k,hk,rfl,rfl⟩
  by_cases hlt:k<8
  ·have h1:=TP a b k
   have g1:=ha k hlt
   have g2:=hb k hlt
   apply Y1;refine Wq Am ?_;refine Y0<|Ac ?_;refine Ct ?_;refine Ys<|Ac<|AWp.block<|Y1<|Wm<|Wa<|Y0 ?_
   refine Dr [[],[(15,0)],[(16,1)],[],[(18,3)],[(19,4)],[(17,2),(20,5)],[(15,0)]] [[],[0],[0,1],[],[3],[3,4],[0,1,2,3,4,5],[0,1,2,3,4,5,6]] ?_
   refine Xq Af ?_;refine Xq BG ?_;refine Xq CO ?_;refine Xq Af ?_;refine Xq BG ?_;refine Xq CO ?_;refine Xq Fv ?_;refine Xq BG ?_;refine ⟨_,rfl,?_⟩
   (refine ED (ao rfl) (ao rfl) rfl (Aa rfl) (by first | exact CH rfl | exact One.sl | exact Fw) (SetAt.mon (by first | omega | (simp;omega))) rfl ?_);apply AWl.nil;apply Aq;refine Yn<|AWp.region ?_;refine Wq AM ?_;refine Wm ?_;apply AWl.nil
   refine ALoop.next (8 - (k+1)) (by omega) ⟨k+1,by omega,rfl,rfl⟩ ?_
   exact Aj (by exact Yp<|Yp<|Yp<|Yd<|FrLe.nil) (by exact HpLe.cons (Dp (by rw [h1,Sg]))<|Yv<|Yv<|HpLe.nil)
  ·obtain rfl : k = 8 := by omega
   apply Y1;refine Wq Ar ?_;refine Y0<|Ac ?_;refine Cf ?_;apply AK;apply AA;apply AB;apply AC;refine Yn<|Y1 ?_;refine Wq AQ ?_;refine Sf ?_;refine Wa<|Y0 ?_;apply Aw
   exact BZ (CR (ResV.cell rfl rfl (Aa rfl) rfl rfl rfl) (ResV.tmp rfl rfl) (Cv (D.le.refl _) (D.le.refl _)))
theorem WB (a b:Nat→Int):Dv (Uz a b) a:=fun j _=>Int.min_le_left _ _
structure PureQ (P : Program) (hp:List Ow) (o:Oper) (arg:Operand→AV) (r:AV):Prop where
 run:∀ (base:Nat) (s:GS) (ρ:Nat→Value) (ev:Operand→Value),s.Ok→base≤s.w.heap.size→HpOk base ρ s hp→(∀ x,x∈o.op.operands→AVr hp.length ρ s (arg x) (ev x))→∃ v,(∀ w,(execOp ev o).run P w = .ok (.value v) w)∧AVr hp.length ρ s r v
section
variable {P : Program} {hp:List Ow} {o:Oper} {arg:Operand→AV}
theorem PureQ.move {x : Operand} {r:AV} (hop:o.op = .move x) (hx:arg x = r):PureQ P hp o arg r:=by
 subst hx
 exact ⟨fun base s ρ ev hok hbs hhp h=>⟨ev x,fun w=>by simp [execOp,hop],h x (by rw [hop];simp [Op.operands])⟩⟩
theorem PureQ.slice {x : Operand} {t:TypeId} {e n b n' b' T sz:Nat} {d:TypeDesc} {z z':Value} {lo hi:Option Operand} {rows:List (List D)} {i j:Int} (hop:o.op = .slice t x lo hi none) (hx:DX hp (arg x) = some (slD T sz rows)) (ht:Tab P t (.slice e) n b z) (he:Tab P e d n' b' z') (hsz:n' = sz) (hlo:(∃ y,lo = some y∧arg y = .d (ex (.int .i64 i)))∨(lo = none∧i = 0)) (hhi:(∃ y,hi = some y∧arg y = .d (ex (.int .i64 j)))∨(hi = none∧j = rows.length)) (h0:0≤i) (hij:i≤j) (hj:j≤rows.length):PureQ P hp o arg (.d (slD T sz ((rows.take j.toNat).drop i.toNat))):=by
 refine ⟨fun base s ρ ev hok hbs hhp h=>?_⟩
 obtain ⟨A,c,e1,h1,h2,h3⟩:=BJ hhp (h x (by rw [hop];simp [Op.operands])) hx
 subst hsz
 obtain ⟨i,rfl⟩:=Int.eq_ofNat_of_zero_le h0
 obtain ⟨j,rfl⟩:=Int.eq_ofNat_of_zero_le (Int.le_trans h0 hij)
 have hij':i≤j:=by omega
 have hj':j≤rows.length:=by omega
 have elo:∃ lo',lo.map ev = lo'∧((lo' = some (.int .i64 i))∨(lo' = none∧i = 0)):=by
  rcases hlo with ⟨y,rfl,hy⟩ | ⟨rfl,hi0⟩
  ·have h5 := h y (by rw [hop]; simp [Op.operands])
   rw [hy] at h5
   exact ⟨_,rfl,.inl (by show some (ev y) = _;rw [show ev y = _ from h5])⟩
  ·exact ⟨_,rfl,.inr ⟨rfl,by omega⟩⟩
 have ehi:∃ hi',hi.map ev = hi'∧((hi' = some (.int .i64 j))∨(hi' = none∧j = rows.length)):=by
  rcases hhi with ⟨y,rfl,hy⟩ | ⟨rfl,hi0⟩
  ·have h5 := h y (by rw [hop]; simp [Op.operands])
   rw [hy] at h5
   exact ⟨_,rfl,.inl (by show some (ev y) = _;rw [show ev y = _ from h5])⟩
  ·exact ⟨_,rfl,.inr ⟨rfl,by omega⟩⟩
 obtain ⟨lo',l1,l2⟩:=elo
 obtain ⟨hi',r1,r2⟩:=ehi
 have hjc:(j:Int)≤c:=by omega
 have hic:(i:Int)≤j:=by omega
 have hb:∀ w,(Instr.sliceBounds true rows.length c lo' hi' none).run P w = .ok (i,j,c) w:=fun w=>by
  rcases l2 with rfl | ⟨rfl,rfl⟩ <;> rcases r2 with rfl | ⟨rfl,rfl⟩ <;> simp [Instr.sliceBounds,Instr.sliceBound,asIntOf,hjc,hic,hij',hj',h1]
  all_goals first | omega | simp [hij',hj',h1] | skip
 have hrun:∀ w,(execOp ev o).run P w = .ok (.value (.slice (if c = i then A else A.map (·.add (i*n'))) (j - i) (c - i))) w:=fun w=>by
  simp only [execOp,hop,l1,r1,e1,Option.map_none,Instr.sliceAt,Sem.run_bind,run_underlying ht.und,Result.andThen_ok,Instr.slice,hb,he.run_size,Sem.run_pure]
 have hlen:((rows.take (j:Int).toNat).drop (i:Int).toNat).length = j - i:=by simp;omega
 refine ⟨_,hrun,(if c = i then A else A.map (·.add (i*n'))),c - i,by rw [hlen],by rw [hlen];omega,by omega,fun hp=>?_⟩
 rw [hlen] at hp
 obtain ⟨g,p,rfl,h5⟩:=h3 (by omega)
 refine ⟨g,p+i*n',?_,fun k hk=>?_⟩
 ·rw [if_neg (by omega)]
  simp [Addr.add_lit]
 ·rw [hlen] at hk
  rw [show (j:Int).toNat = j from rfl,show (i:Int).toNat = i from rfl]
  rw [LG,LF (by omega)]
  have:=h5 (i+k) (by omega)
  rw [Nat.add_mul,← Nat.add_assoc] at this
  exact this
theorem Pj {α : Type} {x y:Operand} {t:TypeId} {e n b n' b' T sz i:Nat} {d:TypeDesc} {z z':Value} {f:α→List D} {l:List α} (hop:o.op = .slice t x (some y) none none) (hx:DX hp (arg x) = some (slD T sz (l.map f))) (hy:arg y = .d (ex (.int .i64 (i:Nat)))) (ht:Tab P t (.slice e) n b z) (he:Tab P e d n' b' z') (hsz:n' = sz) (hi:i≤l.length):PureQ P hp o arg (.d (slD T sz ((l.drop i).map f))):=by
 have h:=PureQ.slice (P:=P) (hp:=hp) (i:=(i:Nat)) (j:=((l.map f).length:Nat)) hop hx ht he hsz (.inl ⟨y,rfl,hy⟩) (.inr ⟨rfl,rfl⟩) (by omega) (by simp;omega) (by omega)
 have e1:((l.map f).take (((l.map f).length:Nat):Int).toNat).drop ((i:Nat):Int).toNat = (l.drop i).map f:=by
  rw [show (((l.map f).length:Nat):Int).toNat = (l.map f).length from rfl,List.take_length,List.map_drop]
  rfl
 rwa [e1] at h
end
structure AWy (P : Program) (s0:An) (n:Nat) (ops:Array Oper) (Q:Exit→AS→Prop) (fuel:Nat) (listed:Array Bool) (σ:AS):Prop where
 run:∀ a w,St s0 n σ a w→wpAny P .any ops (Fb s0 n (OnlyN Q)) fuel listed a w
def NJ (ops : Array Oper):Array Bool→List Nat→Bool
 | listed,[]=>Region.ready .any ops listed == []
 | listed,j :: js=>Region.ready .any ops listed == [j] && NJ ops (listed.setIfInBounds j true) js
def MY (ops : Array Oper) (js:List Nat):Bool:=js.all fun j=>(ops[j]?).isSome
def Lg (ops : Array Oper):List Nat→List Oper
 | []=>[]
 | j :: js=>match ops[j]? with
  | some o=>o :: Lg ops js
  | none=>[]
theorem HV {ops : Array Oper}:∀ {js:List Nat},MY ops js = true→js.map (fun j=>ops[j]?) = (Lg ops js).map some
 | [],_=>rfl
 | j :: js,h=>by
  simp only [MY,List.all_cons,Bool.and_eq_true] at h
  obtain ⟨o,ho⟩:=Option.isSome_iff_exists.1 h.1
  have ih:=HV (js:=js) h.2
  simp only [Lg,ho,List.map_cons,ih]
section
variable {P : Program} {s0:An} {n:Nat} {ops:Array Oper} {Q:Exit→AS→Prop} {fr:List (Nat × AV)} {hp:List Ow}
theorem AWp.any {id : Nat} {l:List Oper} {σ:AS} (hm:P.follows .mixedOrders = true) (h:AWy P s0 n l.toArray Q l.toArray.size (Array.replicate l.toArray.size false) σ):AWp P s0 n (.region id l.toArray true) Q σ:=by
 refine ⟨fun a w ⟨s,ρ,hw,hst⟩=>?_⟩
 subst hw
 have hst':=hst.put (KU s) (dst:=none) (fun d hd=>by cases hd) (v:=undef) (r:=.d Cl) trivial
 have h1:=h.run a s.w.drew ⟨s.dr,ρ,rfl,hst'⟩
 exact wp_mono (wp_region_any hm h1) fun ex a' w' ⟨σ',hq,hs⟩=>by
  obtain ⟨rfl,hq⟩:=hq
  exact ⟨σ',hq,hs⟩
theorem EC {fuel : Nat} {listed:Array Bool} (i:Nat) {o:Oper} {d:Nat} {r:AV} (hi:ops[i]? = some o) (hg:o.guard = none) (hdst:o.dst = some d) (hs:Region.noSelect ops = true) (hf:Region.free .any ops listed i = true) (hr:(Region.ready .any ops listed).contains i = true) (hd:Nat.blt d n = true) (hq:PureQ P hp o (AS.arg ⟨fr,hp⟩) r) (h:AWy P s0 n ops Q fuel (listed.setIfInBounds i true) ⟨(d,r) :: fr,hp⟩):AWy P s0 n ops Q (fuel+1) listed ⟨fr,hp⟩:=by
 refine ⟨fun a w ⟨s,ρ,hw,hst⟩=>?_⟩
 subst hw
 obtain ⟨v,h1,h2⟩:=hq.run 0 s ρ a.eval hst.ok (Nat.zero_le _) hst.hp fun x _=>hst.arg x
 have hst':=hst.put (GS.Le.refl s) (dst:=some d) (fun d' hd'=>by cases hd';simpa [Nat.blt_eq] using hd) h2
 refine wpAny_take hi hs hf hr (fun c a w h=>?_) (.inl ⟨by simp [Region.wanted,hg],h1⟩) ?_
 ·obtain ⟨_,h,_⟩:=h
  have:=h.how
  cases this
 ·rw [hdst]
  exact h.run _ _ ⟨s,ρ,rfl,hst'⟩
theorem HU {ops : Array Oper} {Q:Exit→Act→World→Prop}:∀ (js:List Nat) (L:List Oper) (listed:Array Bool) (a:Act) (w:World),NJ ops listed js = true→js.map (fun j=>ops[j]?) = L.map some→wpList P ops Q L a w→wpAny P .any ops Q js.length listed a w
 | [],[],listed,a,w,hs,_,h=>⟨by simpa [NJ] using hs,h⟩
 | [],_ :: _,_,_,_,_,hl,_=>by simp at hl
 | _ :: _,[],_,_,_,_,hl,_=>by simp at hl
 | j :: js,o :: L,listed,a,w,hs,hl,h=>by
  simp only [NJ,Bool.and_eq_true,beq_iff_eq] at hs
  simp only [List.map_cons,List.cons.injEq] at hl
  refine wpAny_all hs.1 (by simp) fun i hi=>?_
  obtain rfl:i = j:=by simpa using hi
  unfold wpList at h
  unfold wpOp
  rw [hl.1]
  simp only
  split
  ·rename_i hw
   rw [if_pos hw] at h
   exact h.imp (Oper.wp_mono fun a w h=>HU js L _ a w hs.2 hl.2 h) fun h=>h
  ·rename_i hw
   rw [if_neg hw] at h
   exact HU js L _ _ w hs.2 hl.2 h
theorem AWy.seq {fuel : Nat} {listed:Array Bool} {σ:AS} (js:List Nat) (hs:NJ ops listed js = true) (hl:MY ops js = true) (hf:fuel = js.length) (h:AWl P s0 n ops (OnlyN Q) (Lg ops js) σ):AWy P s0 n ops Q fuel listed σ:=by
 subst hf
 exact ⟨fun a w hst=>HU js _ listed a w hs (HV hl) (h.run a w hst)⟩
end
end Go.Proofs.YtialdhnijjnpaaaGreat
