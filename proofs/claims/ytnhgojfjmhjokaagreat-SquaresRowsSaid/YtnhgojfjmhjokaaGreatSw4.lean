/- Part 4 of the proof of squaresRows_holds. No condition. -/
import Derived.BigQuiet
import Derived.ChangeAlike
import Derived.ChangeKeysEq
import Derived.Deep.Cut
import Derived.Deep.CutBlock
import Derived.Deep.DeepCutAuto
import Derived.Deep.LoopGhost
import Derived.Deep.QuietTactic
import Derived.Deep.RegionHeld3
import Derived.Laws.AppendOwnNone
import Derived.RegionTactic
import Derived.WalkKit
import Derived.WalkLawsBesides
import Derived.WalkSpells
import Derived.Test.YtnhgojfjmhjokaaGreatSw1
set_option linter.unusedSimpArgs false
set_option linter.unusedVariables false
set_option maxRecDepth 100000
set_option maxHeartbeats 800000
namespace Go.Proofs.YtnhgojfjmhjokaaGreat
open Go.RowKit
def c8 (a : Nat→Int):Array Value:=#[.int .i64 (a 0),.int .i64 (a 1),.int .i64 (a 2),.int .i64 (a 3),.int .i64 (a 4),.int .i64 (a 5),.int .i64 (a 6),.int .i64 (a 7)]
theorem A0t (a : Nat→Int) (k:Nat) (h:k<8):(c8 a)[k]? = some (.int .i64 (a k)):=by
 match k,h with
 | 0,_=>rfl
 | 1,_=>rfl
 | 2,_=>rfl
 | 3,_=>rfl
 | 4,_=>rfl
 | 5,_=>rfl
 | 6,_=>rfl
 | 7,_=>rfl
theorem lt8 {k : Nat} (h:k<8):k = 0∨k = 1∨k = 2∨k = 3∨k = 4∨k = 5∨k = 6∨k = 7:=by omega
theorem Lq (a : Nat→Int) (k:Nat) (h:k<8) (W:World):(Instr.index 70 (.agg #[.int .i64 (a 0),.int .i64 (a 1),.int .i64 (a 2),.int .i64 (a 3),.int .i64 (a 4),.int .i64 (a 5),.int .i64 (a 6),.int .i64 (a 7)]) (.int .i64 (k:Int))).run Tryz.prog W = .ok (.int .i64 (a k)) W:=by
 rcases lt8 h with rfl | rfl | rfl | rfl | rfl | rfl | rfl | rfl <;> kernel_rfl
theorem Oj (a : Nat→Int) (k:Nat) (h:k<8) (W:World):(part 3 (c8 a) (k*Tryz.prog.cellsOf 3)).run Tryz.prog W = .ok (.int .i64 (a k)) W:=by
 rcases lt8 h with rfl | rfl | rfl | rfl | rfl | rfl | rfl | rfl <;> kernel_rfl
def MI (a b:Nat→Int):Bool:=(List.range 8).all fun i=>a i == b i
theorem CD {a b:Nat→Int}:MI a b = true↔∀ i,i<8→a i = b i:=by simp [MI]
theorem Ja (d : Nat) (a b:Nat→Int) (W:World):∀ is:List Nat,(∀ i∈is,i<8)→(Op.eqItems (d+1) 3 (Tryz.prog.cellsOf 3) (c8 a) (c8 b) is).run Tryz.prog W = .ok (is.all fun i=>a i == b i) W
 | [],_=>by simp [Op.eqItems]
 | i :: is,h=>by
  have ih:=Ja d a b W is fun j hj=>h j (by simp [hj])
  have hi:=h i (by simp)
  simp only [Op.eqItems,Sem.run_bind,Oj a i hi,Oj b i hi,Result.andThen_ok,run_equalIn_int W d 3 .i64 .i64 _ _ (show Tryz.prog.underlying 3 = some (.int .i64) by kernel_rfl)]
  cases hc:a i == b i
  ·simp [hc]
  ·simp only [Bool.not_true,Bool.false_eq_true,if_false,ih,List.all_cons,hc,Bool.true_and]
theorem EF (a b:Nat→Int) (W:World):(Op.equalIn 10000 70 (.agg #[.int .i64 (a 0),.int .i64 (a 1),.int .i64 (a 2),.int .i64 (a 3),.int .i64 (a 4),.int .i64 (a 5),.int .i64 (a 6),.int .i64 (a 7)]) (.agg #[.int .i64 (b 0),.int .i64 (b 1),.int .i64 (b 2),.int .i64 (b 3),.int .i64 (b 4),.int .i64 (b 5),.int .i64 (b 6),.int .i64 (b 7)])).run Tryz.prog W = .ok (MI a b) W:=by
 obtain ⟨i,hi⟩:∃ i,Tryz.prog.info? 3 = some i:=Option.isSome_iff_exists.1 (by kernel_rfl)
 have:=run_equalIn_array (P:=Tryz.prog) W 9999 (t:=70) (e:=3) (n:=8) (c8 a) (c8 b) (by kernel_rfl) hi
 rw [Ja 9998 a b W (List.range 8) (by simp)] at this
 exact this
theorem A0s (a : Nat→Int) (k:Nat) (v:Int) (h:k<8):(c8 a).setIfInBounds k (.int .i64 v) = c8 (fun i=>if i = k then v else a i):=by
 match k,h with
 | 0,_=>rfl
 | 1,_=>rfl
 | 2,_=>rfl
 | 3,_=>rfl
 | 4,_=>rfl
 | 5,_=>rfl
 | 6,_=>rfl
 | 7,_=>rfl
theorem Blk.at8 {w : World} {g:Nat} {t:TypeId} {a:Nat→Int} (h:Blk w g t (c8 a)) {k:Nat} (hk:k<8):w.cell? ⟨g,k,none⟩ = some (.int .i64 (a k)):=by
 rw [h.cell,A0t a k hk]
theorem Blk.set8 {w : World} {g:Nat} {t:TypeId} {a:Nat→Int} (h:Blk w g t (c8 a)) {k:Nat} (hk:k<8) (v:Int):Blk (w.setCell ⟨g,k,none⟩ (.int .i64 v)) g t (c8 (fun i=>if i = k then v else a i)):=by
 rw [← A0s a k v hk]
 exact h.set k _
def CV (a : Nat→Int):Nat→Int
 | 0=>0
 | k+1=>CV a k+a k
def In8 (a : Nat→Int) (lo hi:Int):Prop:=∀ i,i<8→lo≤a i∧a i≤hi
theorem In8.mono {a : Nat→Int} {lo hi lo' hi':Int} (h:In8 a lo hi) (h1:lo'≤lo) (h2:hi≤hi'):In8 a lo' hi':=fun i hi=>by have:=h i hi;omega
theorem Kb {a : Nat→Int} {lo hi:Int} (h:In8 a lo hi):∀ k,k≤8→lo*k≤CV a k∧CV a k≤hi*k
 | 0,_=>by simp [CV]
 | k+1,hk=>by
  have ih:=Kb h k (by omega)
  have:=h k (by omega)
  simp only [CV,Int.natCast_add,Int.mul_add]
  omega
def EH (a b:Nat→Int):Nat→Nat→Int
 | _,0=>0
 | k,n+1=>if a k = b k then EH a b (k+1) n else if a k<b k then -1 else 1
def Fa (a b:Nat→Int):Int:=EH a b 0 8
theorem Jk {a b:Nat→Int}:∀ (n k:Nat),(∀ i,k≤i→i<k+n→a i = b i)→EH a b k n = 0
 | 0,_,_=>rfl
 | n+1,k,h=>by
  rw [EH,if_pos (h k (by omega) (by omega))]
  exact Jk n (k+1) fun i h1 h2=>h i (by omega) (by omega)
theorem Xh (a b:Nat→Int) (w:World) :
  Calls Tryz.prog 118 #[.agg #[.int .i64 (a 0),.int .i64 (a 1),.int .i64 (a 2),.int .i64 (a 3),.int .i64 (a 4),.int .i64 (a 5),.int .i64 (a 6),.int .i64 (a 7)],.agg #[.int .i64 (b 0),.int .i64 (b 1),.int .i64 (b 2),.int .i64 (b 3),.int .i64 (b 4),.int .i64 (b 5),.int .i64 (b 6),.int .i64 (b 7)]] w fun e w'=>e = .returned (.int .i64 (Fa a b))∧Ext w w':=by
 have hq:=fun W=>EF a b W
 cases he:MI a b with
 | true =>
  rw [he] at hq
  go_enter Tryz.func118,Tryz.ntmps118
  go_wp2
  go_ret
  refine ⟨?_,((Ext.refl _).alloc _).alloc _⟩
  rw [Fa,Jk 8 0 fun i _ h=>CD.1 he i (by omega)]
  rfl
 | false =>
  rw [he] at hq
  have hne:¬ ∀ i,i<8→a i = b i:=fun h=>by rw [CD.2 h] at he;cases he
  clear he
  replace hne:=Aa hne
  have hA:Hid (Blk ((w.alloc (.cells #[.int .i64 (a 0),.int .i64 (a 1),.int .i64 (a 2),.int .i64 (a 3),.int .i64 (a 4),.int .i64 (a 5),.int .i64 (a 6),.int .i64 (a 7)] 70)).alloc (.cells #[.int .i64 (b 0),.int .i64 (b 1),.int .i64 (b 2),.int .i64 (b 3),.int .i64 (b 4),.int .i64 (b 5),.int .i64 (b 6),.int .i64 (b 7)] 70)) w.heap.size 70 (c8 a)):=(Blk.new _ _ _).alloc _
  have hB:Hid (Blk ((w.alloc (.cells #[.int .i64 (a 0),.int .i64 (a 1),.int .i64 (a 2),.int .i64 (a 3),.int .i64 (a 4),.int .i64 (a 5),.int .i64 (a 6),.int .i64 (a 7)] 70)).alloc (.cells #[.int .i64 (b 0),.int .i64 (b 1),.int .i64 (b 2),.int .i64 (b 3),.int .i64 (b 4),.int .i64 (b 5),.int .i64 (b 6),.int .i64 (b 7)] 70)) (w.heap.size+1) 70 (c8 b)):=AW _ _ (by simp)
  have hE:Hid (Ext w ((w.alloc (.cells #[.int .i64 (a 0),.int .i64 (a 1),.int .i64 (a 2),.int .i64 (a 3),.int .i64 (a 4),.int .i64 (a 5),.int .i64 (a 6),.int .i64 (a 7)] 70)).alloc (.cells #[.int .i64 (b 0),.int .i64 (b 1),.int .i64 (b 2),.int .i64 (b 3),.int .i64 (b 4),.int .i64 (b 5),.int .i64 (b 6),.int .i64 (b 7)] 70))):=((Ext.refl _).alloc _).alloc _
  go_enter Tryz.func118,Tryz.ntmps118
  go_wp2
  generalize ((w.alloc (.cells #[.int .i64 (a 0),.int .i64 (a 1),.int .i64 (a 2),.int .i64 (a 3),.int .i64 (a 4),.int .i64 (a 5),.int .i64 (a 6),.int .i64 (a 7)] 70)).alloc (.cells #[.int .i64 (b 0),.int .i64 (b 1),.int .i64 (b 2),.int .i64 (b 3),.int .i64 (b 4),.int .i64 (b 5),.int .i64 (b 6),.int .i64 (b 7)] 70)) = w1 at *
  go_loopw [5] (fun i wr=>∃ k:Nat,k<8∧i = .int .i64 k∧Hid ((¬ ∀ i,k≤i→i<8→a i = b i)∧Fa a b = EH a b k (8 - k)∧Blk wr w.heap.size 70 (c8 a)∧Blk wr (w.heap.size+1) 70 (c8 b)∧Ext w wr)) (fun i _=>8 - (intOf i).toNat)
  case atStart=>exact ⟨0,by omega,rfl,fun h=>hne.out fun i hi=>h i (by omega) hi,rfl,hA.out,hB.out,hE.out⟩
  case round =>
   obtain ⟨k,hk,rfl,hR⟩:=hrel
   have xa:=hR.out.2.2.1.at8 hk
   have xb:=hR.out.2.2.2.1.at8 hk
   have hs:Hid (EH a b k (8 - k) = if a k = b k then EH a b (k+1) (8 - (k+1)) else if a k<b k then -1 else 1):=by
    rw [show 8 - k = 8 - (k+1)+1 by omega];rfl
   have hn:Hid (a k = b k→k+1<8∧¬ ∀ i,k+1≤i→i<8→a i = b i):=fun h=>by
    have h1:¬ ∀ i,k+1≤i→i<8→a i = b i:=fun h2=>hR.out.1 fun i h3 h4=>by
     by_cases e:i = k
     ·rw [e];exact h
     ·exact h2 i (by omega) h4
    refine ⟨?_,h1⟩
    by_cases hk':k+1<8
    ·exact hk'
    ·exact absurd (fun i h3 h4=>by omega) h1
   generalize a k = x at *
   generalize b k = y at *
   by_cases hxy:x = y
   ·have hn':=hn.out hxy
    have hs':=hs.out
    rw [if_pos hxy] at hs'
    replace hs':=Aa (hR.out.2.1.trans hs')
    have hk1:=hn'.1
    replace hn':=Aa hn'.2
    go_wp2
    go_quiet (fail)
    go_wp2
    exact ⟨⟨k+1,hk1,by simp,hn'.out,hs'.out,hR.out.2.2.1,hR.out.2.2.2.1,hR.out.2.2.2.2.drewN _⟩,by simp [intOf];omega⟩
   ·have hs':=hs.out
    rw [if_neg hxy] at hs'
    replace hs':=Aa (hR.out.2.1.trans hs')
    by_cases hlt:x<y
    ·rw [if_pos hlt] at hs'
     go_wp2
     go_quiet (fail)
     go_wp2
     go_quiet (fail)
     go_wp2
     go_ret
     exact ⟨by rw [hs'.out];rfl,(hR.out.2.2.2.2.drewN _).drewN _⟩
    ·rw [if_neg hlt] at hs'
     go_wp2
     go_quiet (fail)
     go_wp2
     go_quiet (fail)
     go_wp2
     go_ret
     exact ⟨by rw [hs'.out];rfl,(hR.out.2.2.2.2.drewN _).drewN _⟩
def Ko (r a b:Nat→Int) (k:Nat):Int:=CV (fun i=>r i*(a i - b i)) k
def FT : List (Nat→Int)→(Nat→Int)→(Nat→Int)→Int
 | [],_,_=>0
 | r :: R,a,b=>if Ko r a b 8<0 then -1 else if 0<Ko r a b 8 then 1 else FT R a b
def Fu (R : List (Nat→Int)) (a b:Nat→Int):Int:=if FT R a b = 0 then Fa a b else FT R a b
theorem Lf {a : Nat→Int}:∀ {k:Nat},(∀ i,i<k→a i = 0)→CV a k = 0
 | 0,_=>rfl
 | k+1,h=>by rw [CV,Lf fun i hi=>h i (by omega),h k (by omega)];rfl
theorem Me {a b:Nat→Int} (h:∀ i,i<8→a i = b i):∀ R,FT R a b = 0
 | []=>rfl
 | r :: R=>by
  have:Ko r a b 8 = 0:=Lf fun i hi=>by rw [h i hi,Int.sub_self,Int.mul_zero]
  rw [FT,this,if_neg (by omega),if_neg (by omega),Me h R]
theorem YQ {a b:Nat→Int} (h:∀ i,i<8→a i = b i) (R:List (Nat→Int)):Fu R a b = 0:=by
 rw [Fu,Me h,if_pos rfl,Fa,Jk 8 0 fun i _ hi=>h i (by omega)]
theorem Qp {a b:Nat→Int} (h:∀ i,i<8→a i = b i):c8 a = c8 b:=by
 simp only [c8,h 0 (by omega),h 1 (by omega),h 2 (by omega),h 3 (by omega),h 4 (by omega),h 5 (by omega),h 6 (by omega),h 7 (by omega)]
theorem Blk.set8' {w : World} {g:Nat} {t:TypeId} {a a':Nat→Int} (h:Blk w g t (c8 a)) {k:Nat} (hk:k<8) (v:Int) (h1:a' k = v) (h2:∀ i,i<8→i ≠ k→a' i = a i):Blk (w.setCell ⟨g,k,none⟩ (.int .i64 v)) g t (c8 a'):=by
 rw [show c8 a' = c8 (fun i=>if i = k then v else a i) from Qp fun i hi=>by
  by_cases e:i = k
  ·rw [if_pos e,e,h1]
  ·rw [if_neg e,h2 i hi e]]
 exact h.set8 hk v
def put8 (w : World) (b:Nat) (a:Nat→Int):World:=(((((((w.setCell ⟨b,0,none⟩ (.int .i64 (a 0))).setCell ⟨b,1,none⟩ (.int .i64 (a 1))).setCell ⟨b,2,none⟩ (.int .i64 (a 2))).setCell ⟨b,3,none⟩ (.int .i64 (a 3))).setCell ⟨b,4,none⟩ (.int .i64 (a 4))).setCell ⟨b,5,none⟩ (.int .i64 (a 5))).setCell ⟨b,6,none⟩ (.int .i64 (a 6))).setCell ⟨b,7,none⟩ (.int .i64 (a 7))
theorem Ext.put8 {w w1:World} (h:Ext w w1) {b:Nat} (hb:w.heap.size≤b) (a:Nat→Int):Ext w (put8 w1 b a) :=
 (((((((h.set (p:=⟨b,0,none⟩) hb _).set (p:=⟨b,1,none⟩) hb _).set (p:=⟨b,2,none⟩) hb _).set (p:=⟨b,3,none⟩) hb _).set (p:=⟨b,4,none⟩) hb _).set (p:=⟨b,5,none⟩) hb _).set (p:=⟨b,6,none⟩) hb _).set (p:=⟨b,7,none⟩) hb _
theorem Ext.grown' {a w w':World} {row:Option Nat} (h:Ext a w) (hg:w.grownBy w' row) (hr:∀ k,row = some k→a.heap.size≤k):Ext a w':=Below.grown h hg h.size hr
theorem Qa (a : Nat→Int) (w:World) (h:In8 a 0 65535) :
  Calls Tryz.prog 112 #[.agg #[.int .i64 (a 0),.int .i64 (a 1),.int .i64 (a 2),.int .i64 (a 3),.int .i64 (a 4),.int .i64 (a 5),.int .i64 (a 6),.int .i64 (a 7)]] w fun e w'=>e = .returned (.bool true)∧Ext w w':=by
 replace h:=Aa h
 go_enter Tryz.func112,Tryz.ntmps112
 go_wp2
 go_loopw [6] (fun i wr=>∃ k:Nat,k≤8∧i = .int .i64 k∧Hid (Ext w wr)) (fun i _=>8 - (intOf i).toNat)
 case atStart=>exact ⟨0,by omega,rfl,(Ext.refl _).alloc _⟩
 case round =>
  obtain ⟨k,hk,rfl,hE⟩:=hrel
  by_cases hlt:k<8
  ·have hx:=fun W=>Lq a k hlt W
   have hb':=h.out k hlt
   generalize a k = x at *
   have h1:decide (x<0) = false:=by simp;omega
   have h2:decide (65535<x) = false:=by simp;omega
   go_wp2
   exact ⟨⟨k+1,hlt,by simp,hE⟩,by simp [intOf];omega⟩
  ·obtain rfl : k = 8 := by omega
   go_wp2
   go_ret
   exact ⟨rfl,hE.out⟩
def Kq (a b:Nat→Int) (k i:Nat):Int:=if i<k then a i+b i else a i
def AU (a b:Nat→Int) (i:Nat):Int:=a i+b i
theorem Nr (a b:Nat→Int) (w:World) (ha:In8 a 0 65535) (hb:In8 b 0 65535) (h:In8 (AU a b) 0 65535) :
  Calls Tryz.prog 85 #[.agg #[.int .i64 (a 0),.int .i64 (a 1),.int .i64 (a 2),.int .i64 (a 3),.int .i64 (a 4),.int .i64 (a 5),.int .i64 (a 6),.int .i64 (a 7)],.agg #[.int .i64 (b 0),.int .i64 (b 1),.int .i64 (b 2),.int .i64 (b 3),.int .i64 (b 4),.int .i64 (b 5),.int .i64 (b 6),.int .i64 (b 7)]] w fun e w'=>e = .returned (.tuple #[.agg #[.int .i64 (AU a b 0),.int .i64 (AU a b 1),.int .i64 (AU a b 2),.int .i64 (AU a b 3),.int .i64 (AU a b 4),.int .i64 (AU a b 5),.int .i64 (AU a b 6),.int .i64 (AU a b 7)],.int .i64 0])∧Ext w w':=by
 replace h:=Aa h
 replace ha:=Aa ha
 replace hb:=Aa hb
 go_enter Tryz.func85,Tryz.ntmps85
 go_wp2
 go_loopw [7] (fun i wr=>∃ k:Nat,k≤8∧i = .int .i64 k∧Hid (Blk wr w.heap.size 70 (c8 (Kq a b k))∧Blk wr (w.heap.size+1) 70 (c8 b)∧Blk wr (w.heap.size+2) 70 (c8 (fun _=>0))∧Ext w wr)) (fun i _=>8 - (intOf i).toNat)
 case atStart=>exact ⟨0,by omega,rfl,((Blk.new _ _ _).alloc _).alloc _,(AW _ _ (by simp)).alloc _,AW _ _ (by simp),(((Ext.refl _).alloc _).alloc _).alloc _⟩
 case round =>
  obtain ⟨k,hk,rfl,hI⟩:=hrel
  by_cases hlt:k<8
  ·have hx:wr.cell? ⟨w.heap.size,k,none⟩ = some (.int .i64 (a k)):=by
    rw [hI.out.1.at8 hlt];simp [Kq]
   have hz:=hI.out.1.frozen k
   have hy:=hI.out.2.1.at8 hlt
   have b1:=ha.out k hlt
   have b2:=hb.out k hlt
   have hn:Hid (Blk (wr.setCell ⟨w.heap.size,k,none⟩ (.int .i64 (a k+b k))) w.heap.size 70 (c8 (Kq a b (k+1)))):=by
    refine hI.out.1.set8' hlt _ (by simp [Kq]) fun i hi hne=>?_
    by_cases h1:i<k
    ·simp [Kq,h1,show i<k+1 by omega]
    ·simp [Kq,h1,show ¬ i<k+1 by omega]
   generalize a k = x at *
   generalize b k = y at *
   go_wp2
   go_region
   go_wp2
   exact ⟨⟨k+1,hlt,by simp,hn.out.drew,(hI.out.2.1.far (by dsimp only;omega) _).drew,(hI.out.2.2.1.far (by dsimp only;omega) _).drew,(hI.out.2.2.2.set (p:=⟨w.heap.size,k,none⟩) (Nat.le_refl _) _).drew⟩,by simp [intOf];omega⟩
  ·obtain rfl : k = 8 := by omega
   have hf:Blk wr w.heap.size 70 (c8 (AU a b)):=by
    rw [← Qp (a:=Kq a b 8) fun i hi=>by simp [Kq,AU,hi]];exact hI.out.1
   have x0:(wr).cell? ⟨w.heap.size,0,none⟩ = some (.int .i64 (AU a b 0)):=(hf).cell 0
   have x1:(wr).cell? ⟨w.heap.size,1,none⟩ = some (.int .i64 (AU a b 1)):=(hf).cell 1
   have x2:(wr).cell? ⟨w.heap.size,2,none⟩ = some (.int .i64 (AU a b 2)):=(hf).cell 2
   have x3:(wr).cell? ⟨w.heap.size,3,none⟩ = some (.int .i64 (AU a b 3)):=(hf).cell 3
   have x4:(wr).cell? ⟨w.heap.size,4,none⟩ = some (.int .i64 (AU a b 4)):=(hf).cell 4
   have x5:(wr).cell? ⟨w.heap.size,5,none⟩ = some (.int .i64 (AU a b 5)):=(hf).cell 5
   have x6:(wr).cell? ⟨w.heap.size,6,none⟩ = some (.int .i64 (AU a b 6)):=(hf).cell 6
   have x7:(wr).cell? ⟨w.heap.size,7,none⟩ = some (.int .i64 (AU a b 7)):=(hf).cell 7
   go_wp2_with fail
   refine (Qa _ _ h.out).mono ?_
   rintro e w1 ⟨rfl,hE1⟩
   have hf1:=hf.ext hE1
   have hd:=hI.out.2.2.1.ext hE1
   clear x0 x1 x2 x3 x4 x5 x6 x7
   have x0:(w1).cell? ⟨w.heap.size,0,none⟩ = some (.int .i64 (AU a b 0)):=(hf1).cell 0
   have x1:(w1).cell? ⟨w.heap.size,1,none⟩ = some (.int .i64 (AU a b 1)):=(hf1).cell 1
   have x2:(w1).cell? ⟨w.heap.size,2,none⟩ = some (.int .i64 (AU a b 2)):=(hf1).cell 2
   have x3:(w1).cell? ⟨w.heap.size,3,none⟩ = some (.int .i64 (AU a b 3)):=(hf1).cell 3
   have x4:(w1).cell? ⟨w.heap.size,4,none⟩ = some (.int .i64 (AU a b 4)):=(hf1).cell 4
   have x5:(w1).cell? ⟨w.heap.size,5,none⟩ = some (.int .i64 (AU a b 5)):=(hf1).cell 5
   have x6:(w1).cell? ⟨w.heap.size,6,none⟩ = some (.int .i64 (AU a b 6)):=(hf1).cell 6
   have x7:(w1).cell? ⟨w.heap.size,7,none⟩ = some (.int .i64 (AU a b 7)):=(hf1).cell 7
   have y0:(w1).cell? ⟨w.heap.size+2,0,none⟩ = some (.int .i64 0):=(hd).cell 0
   have y1:(w1).cell? ⟨w.heap.size+2,1,none⟩ = some (.int .i64 0):=(hd).cell 1
   have y2:(w1).cell? ⟨w.heap.size+2,2,none⟩ = some (.int .i64 0):=(hd).cell 2
   have y3:(w1).cell? ⟨w.heap.size+2,3,none⟩ = some (.int .i64 0):=(hd).cell 3
   have y4:(w1).cell? ⟨w.heap.size+2,4,none⟩ = some (.int .i64 0):=(hd).cell 4
   have y5:(w1).cell? ⟨w.heap.size+2,5,none⟩ = some (.int .i64 0):=(hd).cell 5
   have y6:(w1).cell? ⟨w.heap.size+2,6,none⟩ = some (.int .i64 0):=(hd).cell 6
   have y7:(w1).cell? ⟨w.heap.size+2,7,none⟩ = some (.int .i64 0):=(hd).cell 7
   have z0:=(hd).frozen 0
   have z1:=(hd).frozen 1
   have z2:=(hd).frozen 2
   have z3:=(hd).frozen 3
   have z4:=(hd).frozen 4
   have z5:=(hd).frozen 5
   have z6:=(hd).frozen 6
   have z7:=(hd).frozen 7
   replace hd:=Aa hd
   replace hf1:=Aa hf1
   replace hf:=Aa hf
   go_wp2
   refine bodyPost_ret (v:=.tuple #[.agg #[.int .i64 (AU a b 0),.int .i64 (AU a b 1),.int .i64 (AU a b 2),.int .i64 (AU a b 3),.int .i64 (AU a b 4),.int .i64 (AU a b 5),.int .i64 (AU a b 6),.int .i64 (AU a b 7)],.int .i64 0]) (by simp [results,Tryz.results85,go_sem,y0,y1,y2,y3,y4,y5,y6,y7]) rfl ⟨rfl,?_⟩
   exact (hI.out.2.2.2.trans hE1).put8 (b:=w.heap.size+2) (by omega) (AU a b)
def Im (a b:Nat→Int) (i:Nat):Int:=a i - b i
def CZ (d : Nat→Int):Nat→Nat→Int
 | _,0=>0
 | k,n+1=>if d k = 0 then CZ d (k+1) n else if d k<0 then -1 else 1
def EM (r d:Nat→Int):Int:=CV (fun i=>r i*d i) 8
def EX : List (Nat→Int)→(Nat→Int)→Int
 | [],d=>CZ d 0 8
 | r :: R,d=>if EM r d<0 then -1 else if 0<EM r d then 1 else EX R d
theorem Ic (a b:Nat→Int):∀ (n k:Nat),EH a b k n = CZ (Im a b) k n
 | 0,_=>rfl
 | n+1,k=>by
  rw [EH,CZ,Ic a b n (k+1)]
  have e:Im a b k = a k - b k:=rfl
  generalize Im a b k = d at *
  by_cases h:a k = b k
  ·rw [if_pos h,if_pos (by omega)]
  ·by_cases h1:a k<b k
   ·simp only [if_neg h,if_pos h1];rw [if_neg (by omega),if_pos (by omega)]
   ·simp only [if_neg h,if_neg h1];rw [if_neg (by omega),if_neg (by omega)]
theorem De (a b:Nat→Int):∀ R:List (Nat→Int),Fu R a b = EX R (Im a b)
 | []=>by rw [Fu,FT,if_pos rfl];exact Ic a b 8 0
 | r :: R=>by
  have ih:=De a b R
  unfold Fu at ih ⊢
  rw [FT,EX,← ih]
  show (if (if Ko r a b 8<0 then _ else _) = 0 then _ else _) = if Ko r a b 8<0 then _ else if 0<Ko r a b 8 then _ else _
  by_cases h1:Ko r a b 8<0
  ·simp only [if_pos h1];rw [if_neg (by omega)]
  ·simp only [if_neg h1]
   by_cases h2:0<Ko r a b 8
   ·simp only [if_pos h2];rw [if_neg (by omega)]
   ·simp only [if_neg h2]
theorem MX (a b:Nat→Int):∀ k,CV (fun i=>a i+b i) k = CV a k+CV b k
 | 0=>rfl
 | k+1=>by simp only [CV,MX a b k];omega
theorem MW (a : Nat→Int):∀ k,CV (fun i=>-(a i)) k = -(CV a k)
 | 0=>rfl
 | k+1=>by simp only [CV,MW a k];omega
theorem FN {a b:Nat→Int}:∀ {k:Nat},(∀ i,i<k→a i = b i)→CV a k = CV b k
 | 0,_=>rfl
 | k+1,h=>by rw [CV,CV,FN fun i hi=>h i (by omega),h k (by omega)]
theorem Va (r d e:Nat→Int):EM r (AU d e) = EM r d+EM r e:=by
 unfold EM
 rw [← MX]
 exact FN fun i _=>by simp only [AU,Int.mul_add]
theorem UZ (r d:Nat→Int):EM r (fun i=>-(d i)) = -(EM r d):=by
 unfold EM
 rw [← MW]
 exact FN fun i _=>by rw [Int.mul_neg]
theorem Qj {r d e:Nat→Int} (h:∀ i,i<8→d i = e i):EM r d = EM r e:=FN fun i hi=>by rw [h i hi]
theorem Kd {d e:Nat→Int}:∀ (n k:Nat),(∀ i,k≤i→i<k+n→d i = e i)→CZ d k n = CZ e k n
 | 0,_,_=>rfl
 | n+1,k,h=>by rw [CZ,CZ,h k (by omega) (by omega),Kd n (k+1) fun i h1 h2=>h i (by omega) (by omega)]
theorem Ft {d e:Nat→Int} (h:∀ i,i<8→d i = e i):∀ R:List (Nat→Int),EX R d = EX R e
 | []=>Kd 8 0 fun i _ hi=>h i (by omega)
 | r :: R=>by rw [EX,EX,Qj h,Ft h R]
theorem MZ (d : Nat→Int):∀ (n k:Nat),CZ d k n = -1∨CZ d k n = 0∨CZ d k n = 1
 | 0,_=>.inr (.inl rfl)
 | n+1,k=>by
  rw [CZ]
  split
  ·exact MZ d n (k+1)
  ·split
   ·exact .inl rfl
   ·exact .inr (.inr rfl)
theorem PU (d : Nat→Int):∀ R:List (Nat→Int),EX R d = -1∨EX R d = 0∨EX R d = 1
 | []=>MZ d 8 0
 | r :: R=>by
  rw [EX]
  split
  ·exact .inl rfl
  ·split
   ·exact .inr (.inr rfl)
   ·exact PU d R
theorem Na (d : Nat→Int):∀ (n k:Nat),CZ (fun i=>-(d i)) k n = -(CZ d k n)
 | 0,_=>rfl
 | n+1,k=>by
  simp only [CZ]
  rw [Na d n (k+1)]
  by_cases h:d k = 0
  ·rw [if_pos h,if_pos (by omega)]
  ·rw [if_neg h, if_neg (by omega)]
   by_cases h1:d k<0
   ·rw [if_pos h1,if_neg (by omega)];rfl
   ·rw [if_neg h1,if_pos (by omega)]
theorem PV (d : Nat→Int):∀ R:List (Nat→Int),EX R (fun i=>-(d i)) = -(EX R d)
 | []=>Na d 8 0
 | r :: R=>by
  simp only [EX]
  rw [UZ,PV d R]
  by_cases h:EM r d<0
  ·rw [if_pos h,if_neg (by omega),if_pos (by omega)];rfl
  ·rw [if_neg h]
   by_cases h1:0<EM r d
   ·rw [if_pos h1,if_pos (by omega)]
   ·rw [if_neg h1,if_neg (by omega),if_neg (by omega)]
theorem Lm {d : Nat→Int}:∀ (n k:Nat),CZ d k n = 0→∀ i,k≤i→i<k+n→d i = 0
 | 0,_,_,i,h1,h2=>by omega
 | n+1,k,h,i,h1,h2=>by
  rw [CZ] at h
  split at h
  ·rename_i h0
   by_cases e:i = k
   ·rw [e];exact h0
   ·exact Lm n (k+1) h i (by omega) (by omega)
  ·split at h <;> omega
theorem Nl {d : Nat→Int}:∀ {R:List (Nat→Int)},EX R d = 0→∀ i,i<8→d i = 0
 | [],h,i,hi=>Lm 8 0 h i (by omega) (by omega)
 | r :: R,h,i,hi=>by
  rw [EX] at h
  split at h
  ·omega
  ·split at h
   ·omega
   ·exact Nl h i hi
theorem Nb {d e:Nat→Int}:∀ (n k:Nat),0≤CZ d k n→0≤CZ e k n→(0≤CZ (AU d e) k n∧(0<CZ d k n∨0<CZ e k n→0<CZ (AU d e) k n))
 | 0,_,_,_=>⟨by simp [CZ],by simp [CZ]⟩
 | n+1,k,h1,h2=>by
  rw [CZ] at h1 h2
  simp only [CZ]
  have ha:AU d e k = d k+e k:=rfl
  by_cases hd:d k = 0
  ·rw [if_pos hd] at h1 ⊢
   by_cases he:e k = 0
   ·rw [if_pos he] at h2 ⊢
    rw [if_pos (by omega)]
    exact Nb n (k+1) h1 h2
   ·rw [if_neg he] at h2 ⊢
    by_cases he':e k<0
    ·rw [if_pos he'] at h2;omega
    ·rw [if_neg he',if_neg (by omega),if_neg (by omega)];exact ⟨by omega,fun _=>by omega⟩
  ·rw [if_neg hd] at h1 ⊢
   by_cases hd':d k<0
   ·rw [if_pos hd'] at h1;omega
   ·by_cases he:e k = 0
    ·rw [if_pos he,if_neg hd',if_neg (by omega),if_neg (by omega)];exact ⟨by omega,fun _=>by omega⟩
    ·rw [if_neg he] at h2 ⊢
     by_cases he':e k<0
     ·rw [if_pos he'] at h2;omega
     ·rw [if_neg hd',if_neg he',if_neg (by omega),if_neg (by omega)];exact ⟨by omega,fun _=>by omega⟩
theorem PW {d e:Nat→Int}:∀ {R:List (Nat→Int)},0≤EX R d→0≤EX R e→(0≤EX R (AU d e)∧(0<EX R d∨0<EX R e→0<EX R (AU d e)))
 | [],h1,h2=>Nb 8 0 h1 h2
 | r :: R,h1,h2=>by
  rw [EX] at h1 h2
  simp only [EX]
  rw [Va]
  by_cases a1:EM r d<0
  ·rw [if_pos a1] at h1;omega
  ·by_cases b1:EM r e<0
   ·rw [if_pos b1] at h2;omega
   ·rw [if_neg a1] at h1 ⊢
    rw [if_neg b1] at h2 ⊢
    rw [if_neg (by omega)]
    by_cases a2:0<EM r d
    ·rw [if_pos a2,if_pos (by omega)];exact ⟨by omega,fun _=>by omega⟩
    ·rw [if_neg a2] at h1 ⊢
     by_cases b2:0<EM r e
     ·rw [if_pos b2,if_pos (by omega)];exact ⟨by omega,fun _=>by omega⟩
     ·rw [if_neg b2] at h2 ⊢
      rw [if_neg (by omega)]
      exact PW h1 h2
theorem WV (R : List (Nat→Int)) (a b:Nat→Int):Fu R a b = -1∨Fu R a b = 0∨Fu R a b = 1:=by
 rw [De];exact PU _ _
theorem WW (R : List (Nat→Int)) (a b:Nat→Int):Fu R b a = -(Fu R a b):=by
 rw [De,De,← PV]
 exact Ft (fun i _=>by simp only [Im];omega) R
theorem Uq {R : List (Nat→Int)} {a b:Nat→Int}:Fu R a b = 0↔∀ i,i<8→a i = b i:=by
 constructor
 ·intro h i hi
  rw [De] at h
  have:=Nl h i hi
  simp only [Im] at this
  omega
 ·intro h;exact YQ h R
theorem LA {R : List (Nat→Int)} {a b c:Nat→Int} (h1:0≤Fu R a b) (h2:0≤Fu R b c):0≤Fu R a c∧(0<Fu R a b∨0<Fu R b c→0<Fu R a c):=by
 rw [De] at h1 h2
 rw [De a c R,De a b R,De b c R]
 rw [Ft (d:=Im a c) (e:=AU (Im a b) (Im b c)) (fun i _=>by simp only [Im,AU];omega) R]
 exact PW h1 h2
theorem RG {R : List (Nat→Int)} {a b a' b':Nat→Int} (h1:∀ i,i<8→a i = a' i) (h2:∀ i,i<8→b i = b' i):Fu R a b = Fu R a' b':=by
 rw [De,De]
 exact Ft (fun i hi=>by simp only [Im,h1 i hi,h2 i hi]) R
theorem WX (R : List (Nat→Int)) (a b c:Nat→Int):Fu R (AU a c) (AU b c) = Fu R a b:=by
 rw [De,De]
 exact Ft (fun i _=>by simp only [Im,AU];omega) R
def Eqv (a b:Nat→Int):Prop:=∀ i,i<8→a i = b i
theorem Eqv.refl (a : Nat→Int):Eqv a a:=fun _ _=>rfl
theorem Eqv.symm {a b:Nat→Int} (h:Eqv a b):Eqv b a:=fun i hi=>(h i hi).symm
theorem Eqv.trans {a b c:Nat→Int} (h:Eqv a b) (k:Eqv b c):Eqv a c:=fun i hi=>(h i hi).trans (k i hi)
structure Tm where
 c:Rat
 m:Nat→Int
instance : Inhabited Tm:=⟨⟨0,fun _=>0⟩⟩
def lx (a b:Nat→Int):Int:=Fu [] a b
theorem JP (a b:Nat→Int):lx a b = -1∨lx a b = 0∨lx a b = 1:=WV _ _ _
theorem LF (a b:Nat→Int):lx b a = -(lx a b):=WW _ _ _
theorem FR {a b:Nat→Int}:lx a b = 0↔Eqv a b:=Uq
theorem Qb {a b a' b':Nat→Int} (h1:Eqv a a') (h2:Eqv b b'):lx a b = lx a' b':=RG h1 h2
theorem HA {a b c:Nat→Int} (h1:0<lx a b) (h2:0<lx b c):0<lx a c:=(LA (Int.le_of_lt h1) (Int.le_of_lt h2)).2 (.inl h1)
theorem Tn (a : Nat→Int):lx a a = 0:=FR.2 (Eqv.refl a)
theorem A0k (a b c:Nat→Int):lx (AU a c) (AU b c) = lx a b:=WX _ _ _ _
theorem NI (a b:Nat→Int):AU a b = AU b a:=by funext i;simp only [AU];omega
def Dm (f : (Nat→Int)→Rat):List Tm→Rat
 | []=>0
 | t :: P=>t.c*f t.m+Dm f P
def IR (f : (Nat→Int)→Rat):Prop:=∀ a b,Eqv a b→f a = f b
def Sim (P Q:List Tm):Prop:=∀ f,IR f→Dm f P = Dm f Q
theorem Sim.refl (P : List Tm):Sim P P:=fun _ _=>rfl
theorem Sim.symm {P Q:List Tm} (h:Sim P Q):Sim Q P:=fun f hf=>(h f hf).symm
theorem Sim.trans {P Q R:List Tm} (h:Sim P Q) (k:Sim Q R):Sim P R:=fun f hf=>(h f hf).trans (k f hf)
theorem Dk (f : (Nat→Int)→Rat):∀ P Q:List Tm,Dm f (P ++ Q) = Dm f P+Dm f Q
 | [],Q=>by simp [Dm,Rat.zero_add]
 | t :: P,Q=>by simp only [List.cons_append,Dm,Dk f P Q];grind
theorem Xv {f : (Nat→Int)→Rat} {P Q:List Tm} (h:P.Perm Q):Dm f P = Dm f Q:=by
 induction h with
 | nil=>rfl
 | cons x _ ih=>simp only [Dm,ih]
 | swap x y l=>simp only [Dm];grind
 | trans _ _ h1 h2=>exact h1.trans h2
theorem Xt (P : List Tm):Dm (fun _=>0) P = 0:=by
 induction P with
 | nil=>rfl
 | cons t P ih=>simp only [Dm,ih];grind
theorem Zc (f g:(Nat→Int)→Rat):∀ P:List Tm,Dm (fun a=>f a+g a) P = Dm f P+Dm g P
 | []=>by simp [Dm,Rat.zero_add]
 | t :: P=>by simp only [Dm,Zc f g P];grind
theorem JW {f g:(Nat→Int)→Rat} {P:List Tm} (h:∀ t∈P,f t.m = g t.m):Dm f P = Dm g P:=by
 induction P with
 | nil=>rfl
 | cons t P ih =>
  simp only [Dm,h t (by simp),ih fun u hu=>h u (by simp [hu])]
theorem OI (f : (Nat→Int)→Rat) (c:Rat) (h:(Nat→Int)→(Nat→Int)):∀ P:List Tm,Dm f (P.map fun t=>⟨c*t.c,h t.m⟩) = c*Dm (fun a=>f (h a)) P
 | []=>by simp [Dm,Rat.mul_zero]
 | t :: P=>by simp only [List.map_cons,Dm,OI f c h P];grind
def Hk (P Q:List Tm):List Tm:=P.flatMap fun s=>Q.map fun t=>⟨s.c*t.c,AU s.m t.m⟩
theorem LW (f : (Nat→Int)→Rat):∀ P Q:List Tm,Dm f (Hk P Q) = Dm (fun a=>Dm (fun b=>f (AU a b)) Q) P
 | [],Q=>rfl
 | s :: P,Q=>by
  have ih:=LW f P Q
  unfold Hk at ih ⊢
  rw [List.flatMap_cons,Dk,ih,OI f s.c (fun b=>AU s.m b) Q]
  rfl
theorem Sim.append {P P' Q Q':List Tm} (h1:Sim P P') (h2:Sim Q Q'):Sim (P ++ Q) (P' ++ Q'):=fun f hf=>by rw [Dk,Dk,h1 f hf,h2 f hf]
def scl (c : Rat) (P:List Tm):List Tm:=P.map fun t=>⟨c*t.c,t.m⟩
theorem Tv (f : (Nat→Int)→Rat) (c:Rat) (P:List Tm):Dm f (scl c P) = c*Dm f P:=OI f c (fun a=>a) P
def Yk (P : List Tm):Prop:=P.Pairwise fun s t=>0<lx s.m t.m
def Canon (P : List Tm):Prop:=Yk P∧∀ t∈P,t.c ≠ 0
def SameL : List Tm→List Tm→Prop
 | [],[]=>True
 | s :: P,t :: Q=>s.c = t.c∧Eqv s.m t.m∧SameL P Q
 | _,_=>False
theorem SameL.refl : ∀ P:List Tm,SameL P P
 | []=>trivial
 | t :: P=>⟨rfl,Eqv.refl _,SameL.refl P⟩
theorem SameL.length : ∀ {P Q:List Tm},SameL P Q→P.length = Q.length
 | [],[],_=>rfl
 | _ :: _,_ :: _,h=>by simp [SameL.length h.2.2]
 | [],_ :: _,h=>h.elim
 | _ :: _,[],h=>h.elim
theorem SameL.sim : ∀ {P Q:List Tm},SameL P Q→Sim P Q
 | [],[],_=>Sim.refl _
 | _ :: _,_ :: _,h=>fun f hf=>by simp only [Dm];rw [h.1,hf _ _ h.2.1,SameL.sim h.2.2 f hf]
 | [],_ :: _,h=>h.elim
 | _ :: _,[],h=>h.elim
def del (a b:Nat→Int):Rat:=if MI a b = true then 1 else 0
theorem HM (a : Nat→Int):IR (del a):=fun b c e=>by
 unfold del
 by_cases h:MI a b = true
 ·rw [if_pos h,if_pos (CD.2 (Eqv.trans (CD.1 h) e))]
 ·rw [if_neg h,if_neg fun h'=>h (CD.2 (Eqv.trans (CD.1 h') e.symm))]
theorem RU {a b:Nat→Int} (h:Eqv a b):del a b = 1:=if_pos (CD.2 h)
theorem RT {a b:Nat→Int} (h:¬ Eqv a b):del a b = 0:=if_neg fun h'=>h (CD.1 h')
theorem GQ {a : Nat→Int} {P:List Tm} (h:∀ t∈P,¬ Eqv a t.m):Dm (del a) P = 0:=by
 rw [JW (g:=fun _=>0) fun t ht=>RT (h t ht),Xt]
theorem Hv {a b:Nat→Int} (h:0<lx a b):¬ Eqv a b:=fun e=>by rw [FR.2 e] at h;exact absurd h (by decide)
theorem DG {t : Tm} {P:List Tm} (h:Yk (t :: P)):Dm (del t.m) (t :: P) = t.c:=by
 rw [Dm,RU (Eqv.refl _),GQ fun u hu=>Hv ((List.pairwise_cons.1 h).1 u hu)]
 grind
theorem Fd : ∀ {P Q:List Tm},Canon P→Canon Q→Sim P Q→SameL P Q
 | [],[],_,_,_=>trivial
 | [],t :: Q,_,hQ,h=>by
  have h1:=h _ (HM t.m)
  rw [DG hQ.1] at h1
  exact absurd h1.symm (hQ.2 t (by simp))
 | s :: P,[],hP,_,h=>by
  have h1:=h _ (HM s.m)
  rw [DG hP.1] at h1
  exact absurd h1 (hP.2 s (by simp))
 | s :: P,t :: Q,hP,hQ,h=>by
  have p1:=List.pairwise_cons.1 hP.1
  have q1:=List.pairwise_cons.1 hQ.1
  rcases JP s.m t.m with hl | hl | hl
  ·have hl' : 0 < lx t.m s.m := by rw [LF, hl]; decide
   have h1:=h _ (HM t.m)
   rw [DG hQ.1,GQ fun u hu=>?_] at h1
   ·exact absurd h1.symm (hQ.2 t (by simp))
   ·rcases List.mem_cons.1 hu with rfl | hu
    ·exact Hv hl'
    ·exact Hv (HA hl' (p1.1 u hu))
  ·have he:=FR.1 hl
   have h1:=h _ (HM s.m)
   have h2:Dm (del s.m) (t :: Q) = t.c:=by
    rw [JW (g:=del t.m) fun u _=>?_,DG hQ.1]
    by_cases e:Eqv s.m u.m
    ·rw [RU e,RU (he.symm.trans e)]
    ·rw [RT e,RT fun e'=>e (he.trans e')]
   rw [DG hP.1,h2] at h1
   refine ⟨h1,he,Fd ⟨p1.2,fun u hu=>hP.2 u (by simp [hu])⟩ ⟨q1.2,fun u hu=>hQ.2 u (by simp [hu])⟩ fun f hf=>?_⟩
   have h3:=h f hf
   simp only [Dm] at h3
   rw [h1,hf _ _ he] at h3
   grind
  ·have hl' : 0 < lx s.m t.m := by rw [hl]; decide
   have h1:=h _ (HM s.m)
   rw [DG hP.1,GQ fun u hu=>?_] at h1
   ·exact absurd h1 (hP.2 s (by simp))
   ·rcases List.mem_cons.1 hu with rfl | hu
    ·exact Hv hl'
    ·exact Hv (HA hl' (q1.1 u hu))
def CW : List Tm→List Tm→List Tm
 | [],Q=>Q
 | s :: P,[]=>s :: P
 | s :: P,t :: Q =>
  if 0<lx s.m t.m then s :: CW P (t :: Q)
  else if lx s.m t.m<0 then t :: CW (s :: P) Q
  else if s.c+t.c = 0 then CW P Q else ⟨s.c+t.c,s.m⟩ :: CW P Q
termination_by P Q => P.length+Q.length
theorem Ov (P : List Tm):CW P [] = P:=by cases P <;> simp [CW]
theorem GI : ∀ P Q:List Tm,Sim (CW P Q) (P ++ Q)
 | [],Q=>by simp only [CW,List.nil_append];exact Sim.refl _
 | s :: P,[]=>by simp only [CW,List.append_nil];exact Sim.refl _
 | s :: P,t :: Q=>fun f hf=>by
  rw [CW]
  by_cases h1:0<lx s.m t.m
  ·rw [if_pos h1]
   have:=GI P (t :: Q) f hf
   simp only [Dm,List.cons_append] at this ⊢
   rw [this]
  ·rw [if_neg h1]
   by_cases h2:lx s.m t.m<0
   ·rw [if_pos h2]
    have:=GI (s :: P) Q f hf
    simp only [Dm,Dk,List.cons_append] at this ⊢
    rw [this]
    grind
   ·rw [if_neg h2]
    have he:Eqv s.m t.m:=FR.1 (by rcases JP s.m t.m with h | h | h <;> omega)
    have:=GI P Q f hf
    by_cases h3:s.c+t.c = 0
    ·rw [if_pos h3,this]
     simp only [Dm,Dk,List.cons_append]
     rw [hf _ _ he]
     have:s.c = -t.c:=by grind
     rw [this]
     grind
    ·rw [if_neg h3]
     simp only [Dm,Dk,List.cons_append] at this ⊢
     rw [this,hf _ _ he]
     grind
termination_by P Q => P.length+Q.length
theorem EZ : ∀ (P Q:List Tm) (u:Tm),u∈CW P Q→(∃ s∈P,s.m = u.m)∨∃ t∈Q,t.m = u.m
 | [],Q,u,h=>by simp only [CW] at h;exact .inr ⟨u,h,rfl⟩
 | s :: P,[],u,h=>by simp only [CW] at h;exact .inl ⟨u,h,rfl⟩
 | s :: P,t :: Q,u,h=>by
  rw [CW] at h
  have up:((∃ x∈P,x.m = u.m)∨∃ x∈Q,x.m = u.m)→(∃ x∈s :: P,x.m = u.m)∨∃ x∈t :: Q,x.m = u.m:=fun h=>by
   rcases h with ⟨x,hx,e⟩ | ⟨x,hx,e⟩
   ·exact .inl ⟨x,by simp [hx],e⟩
   ·exact .inr ⟨x,by simp [hx],e⟩
  split at h
  ·rcases List.mem_cons.1 h with rfl | h
   ·exact .inl ⟨u,by simp,rfl⟩
   ·rcases EZ P (t :: Q) u h with ⟨x,hx,e⟩ | h
    ·exact .inl ⟨x,by simp [hx],e⟩
    ·exact .inr h
  ·split at h
   ·rcases List.mem_cons.1 h with rfl | h
    ·exact .inr ⟨u,by simp,rfl⟩
    ·rcases EZ (s :: P) Q u h with h | ⟨x,hx,e⟩
     ·exact .inl h
     ·exact .inr ⟨x,by simp [hx],e⟩
   ·split at h
    ·exact up (EZ P Q u h)
    ·rcases List.mem_cons.1 h with rfl | h
     ·exact .inl ⟨s,by simp,rfl⟩
     ·exact up (EZ P Q u h)
termination_by P Q => P.length+Q.length
theorem Eu : ∀ {P Q:List Tm},Canon P→Canon Q→Canon (CW P Q)
 | [],Q,_,h=>by simp only [CW];exact h
 | s :: P,[],h,_=>by simp only [CW];exact h
 | s :: P,t :: Q,hP,hQ=>by
  have p1:=List.pairwise_cons.1 hP.1
  have q1:=List.pairwise_cons.1 hQ.1
  have hP':Canon P:=⟨p1.2,fun u hu=>hP.2 u (by simp [hu])⟩
  have hQ':Canon Q:=⟨q1.2,fun u hu=>hQ.2 u (by simp [hu])⟩
  have con:∀ {x:Tm} {L:List Tm},x.c ≠ 0→Canon L→(∀ u∈L,0<lx x.m u.m)→Canon (x :: L):=fun hc hL hx=>⟨List.pairwise_cons.2 ⟨hx,hL.1⟩,fun u hu=>by
   rcases List.mem_cons.1 hu with rfl | hu
   ·exact hc
   ·exact hL.2 u hu⟩
  rw [CW]
  split
  ·rename_i h1
   refine con (hP.2 s (by simp)) (Eu hP' hQ) fun u hu=>?_
   rcases EZ P (t :: Q) u hu with ⟨x,hx,e⟩ | ⟨x,hx,e⟩
   ·rw [← e];exact p1.1 x hx
   ·rw [← e]
    rcases List.mem_cons.1 hx with rfl | hx
    ·exact h1
    ·exact HA h1 (q1.1 x hx)
  ·split
   ·rename_i h1 h2
    have h2':0<lx t.m s.m:=by rw [LF];omega
    refine con (hQ.2 t (by simp)) (Eu hP hQ') fun u hu=>?_
    rcases EZ (s :: P) Q u hu with ⟨x,hx,e⟩ | ⟨x,hx,e⟩
    ·rw [← e]
     rcases List.mem_cons.1 hx with rfl | hx
     ·exact h2'
     ·exact HA h2' (p1.1 x hx)
    ·rw [← e];exact q1.1 x hx
   ·rename_i h1 h2
    have he:Eqv s.m t.m:=FR.1 (by rcases JP s.m t.m with h | h | h <;> omega)
    split
    ·exact Eu hP' hQ'
    ·rename_i h3
     refine con h3 (Eu hP' hQ') fun u hu=>?_
     rcases EZ P Q u hu with ⟨x,hx,e⟩ | ⟨x,hx,e⟩
     ·rw [← e];exact p1.1 x hx
     ·rw [← e,Qb he (Eqv.refl _)];exact q1.1 x hx
termination_by P Q => P.length+Q.length
theorem GJ : ∀ P Q:List Tm,(CW P Q).length≤P.length+Q.length
 | [],Q=>by simp only [CW];simp
 | s :: P,[]=>by simp only [CW];simp
 | s :: P,t :: Q=>by
  rw [CW]
  have h1:=GJ P (t :: Q)
  have h2:=GJ (s :: P) Q
  have h3:=GJ P Q
  simp only [List.length_cons] at h1 h2 h3 ⊢
  split
  ·simp only [List.length_cons];omega
  ·split
   ·simp only [List.length_cons];omega
   ·split
    ·omega
    ·simp only [List.length_cons];omega
termination_by P Q => P.length+Q.length
end Go.Proofs.YtnhgojfjmhjokaaGreat
