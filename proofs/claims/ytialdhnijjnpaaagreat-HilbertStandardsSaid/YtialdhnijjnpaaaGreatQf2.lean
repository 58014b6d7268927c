/- Part 2 of the proof of hilbertStandards_holds. No condition. -/
import Derived.BigQuiet
import Derived.ChangeAlike
import Derived.ChangeKeysEq
import Derived.Deep.Cut
import Derived.Deep.CutBlock
import Derived.Deep.DeepCutAuto
import Derived.Deep.LoopGhost
import Derived.Deep.QuietTactic
import Derived.Deep.RegionHeld3
import Derived.Laws.AppendOwnNone
import Derived.RegionTactic
import Derived.WalkKit
import Derived.WalkLawsBesides
import Derived.WalkSpells
import Derived.Test.YtialdhnijjnpaaaGreatQf1
set_option linter.unusedSimpArgs false
set_option linter.unusedVariables false
set_option maxRecDepth 100000
set_option maxHeartbeats 800000
namespace Go.Proofs.YtialdhnijjnpaaaGreat
open Go.RowKit
def c8 (a : Nat→Int):Array Value:=#[.int .i64 (a 0),.int .i64 (a 1),.int .i64 (a 2),.int .i64 (a 3),.int .i64 (a 4),.int .i64 (a 5),.int .i64 (a 6),.int .i64 (a 7)]
theorem Vk (a : Nat→Int) (k:Nat) (h:k<8):(c8 a)[k]? = some (.int .i64 (a k)):=by
 match k,h with
 | 0,_=>rfl
 | 1,_=>rfl
 | 2,_=>rfl
 | 3,_=>rfl
 | 4,_=>rfl
 | 5,_=>rfl
 | 6,_=>rfl
 | 7,_=>rfl
theorem lt8 {k : Nat} (h:k<8):k = 0∨k = 1∨k = 2∨k = 3∨k = 4∨k = 5∨k = 6∨k = 7:=by omega
theorem Eh (a : Nat→Int) (k:Nat) (h:k<8) (W:World):(Instr.index 55 (.agg #[.int .i64 (a 0),.int .i64 (a 1),.int .i64 (a 2),.int .i64 (a 3),.int .i64 (a 4),.int .i64 (a 5),.int .i64 (a 6),.int .i64 (a 7)]) (.int .i64 (k:Int))).run Tryz.prog W = .ok (.int .i64 (a k)) W:=by
 rcases lt8 h with rfl | rfl | rfl | rfl | rfl | rfl | rfl | rfl <;> kernel_rfl
theorem Mz (a : Nat→Int) (k:Nat) (h:k<8) (W:World):(part 3 (c8 a) (k*Tryz.prog.cellsOf 3)).run Tryz.prog W = .ok (.int .i64 (a k)) W:=by
 rcases lt8 h with rfl | rfl | rfl | rfl | rfl | rfl | rfl | rfl <;> kernel_rfl
def Gl (a b:Nat→Int):Bool:=(List.range 8).all fun i=>a i == b i
theorem DH {a b:Nat→Int}:Gl a b = true↔∀ i,i<8→a i = b i:=by simp [Gl]
theorem HV (d : Nat) (a b:Nat→Int) (W:World):∀ is:List Nat,(∀ i∈is,i<8)→(Op.eqItems (d+1) 3 (Tryz.prog.cellsOf 3) (c8 a) (c8 b) is).run Tryz.prog W = .ok (is.all fun i=>a i == b i) W
 | [],_=>by simp [Op.eqItems]
 | i :: is,h=>by
  have ih:=HV d a b W is fun j hj=>h j (by simp [hj])
  have hi:=h i (by simp)
  simp only [Op.eqItems,Sem.run_bind,Mz a i hi,Mz b i hi,Result.andThen_ok,run_equalIn_int W d 3 .i64 .i64 _ _ (show Tryz.prog.underlying 3 = some (.int .i64) by kernel_rfl)]
  cases hc:a i == b i
  ·simp [hc]
  ·simp only [Bool.not_true,Bool.false_eq_true,if_false,ih,List.all_cons,hc,Bool.true_and]
theorem Dk (a b:Nat→Int) (W:World):(Op.equalIn 10000 55 (.agg #[.int .i64 (a 0),.int .i64 (a 1),.int .i64 (a 2),.int .i64 (a 3),.int .i64 (a 4),.int .i64 (a 5),.int .i64 (a 6),.int .i64 (a 7)]) (.agg #[.int .i64 (b 0),.int .i64 (b 1),.int .i64 (b 2),.int .i64 (b 3),.int .i64 (b 4),.int .i64 (b 5),.int .i64 (b 6),.int .i64 (b 7)])).run Tryz.prog W = .ok (Gl a b) W:=by
 obtain ⟨i,hi⟩:∃ i,Tryz.prog.info? 3 = some i:=Option.isSome_iff_exists.1 (by kernel_rfl)
 have:=run_equalIn_array (P:=Tryz.prog) W 9999 (t:=55) (e:=3) (n:=8) (c8 a) (c8 b) (by kernel_rfl) hi
 rw [HV 9998 a b W (List.range 8) (by simp)] at this
 exact this
theorem Blk.at8 {w : World} {g:Nat} {t:TypeId} {a:Nat→Int} (h:Blk w g t (c8 a)) {k:Nat} (hk:k<8):w.cell? ⟨g,k,none⟩ = some (.int .i64 (a k)):=by
 rw [h.cell,Vk a k hk]
def CI (a : Nat→Int):Nat→Int
 | 0=>0
 | k+1=>CI a k+a k
def In8 (a : Nat→Int) (lo hi:Int):Prop:=∀ i,i<8→lo≤a i∧a i≤hi
theorem In8.mono {a : Nat→Int} {lo hi lo' hi':Int} (h:In8 a lo hi) (h1:lo'≤lo) (h2:hi≤hi'):In8 a lo' hi':=fun i hi=>by have:=h i hi;omega
theorem Gs {a : Nat→Int} {lo hi:Int} (h:In8 a lo hi):∀ k,k≤8→lo*k≤CI a k∧CI a k≤hi*k
 | 0,_=>by simp [CI]
 | k+1,hk=>by
  have ih:=Gs h k (by omega)
  have:=h k (by omega)
  simp only [CI,Int.natCast_add,Int.mul_add]
  omega
theorem Qv (a : Nat→Int) (w:World) (h:In8 a (-1000000) 1000000) :
  Calls Tryz.prog 94 #[.agg #[.int .i64 (a 0),.int .i64 (a 1),.int .i64 (a 2),.int .i64 (a 3),.int .i64 (a 4),.int .i64 (a 5),.int .i64 (a 6),.int .i64 (a 7)]] w fun e w'=>e = .returned (.int .i64 (CI a 8))∧Ext w w':=by
 replace h:=Ad h
 go_enter Tryz.func94,Tryz.ntmps94
 go_wp2
 go_loopw [3,7] (fun s i wr=>∃ k:Nat,k≤8∧i = .int .i64 k∧s = .int .i64 (CI a k)∧Hid (Ext w wr)) (fun _ i _=>8 - (intOf i).toNat)
 case atStart=>exact ⟨0,by omega,rfl,rfl,(Ext.refl _).alloc _⟩
 case round =>
  obtain ⟨k,hk,rfl,rfl,hE⟩:=hrel
  by_cases hlt:k<8
  ·have hx:=fun W=>Eh a k hlt W
   have hb:=Gs h.out k hk
   have hb':=h.out k hlt
   have hs:CI a (k+1) = CI a k+a k:=rfl
   generalize CI a k = s at *
   generalize a k = x at *
   replace hs:=Ad hs
   go_wp2
   exact ⟨⟨k+1,hlt,by simp,by rw [hs.out],hE⟩,by simp [intOf];omega⟩
  ·obtain rfl : k = 8 := by omega
   go_wp2
   go_ret
   exact ⟨rfl,hE.out⟩
def Ek (a b:Nat→Int):Nat→Nat→Int
 | _,0=>0
 | k,n+1=>if a k = b k then Ek a b (k+1) n else if a k<b k then -1 else 1
def Eu (a b:Nat→Int):Int:=Ek a b 0 8
theorem Ig {a b:Nat→Int}:∀ (n k:Nat),(∀ i,k≤i→i<k+n→a i = b i)→Ek a b k n = 0
 | 0,_,_=>rfl
 | n+1,k,h=>by
  rw [Ek,if_pos (h k (by omega) (by omega))]
  exact Ig n (k+1) fun i h1 h2=>h i (by omega) (by omega)
theorem UI (a b:Nat→Int) (w:World) :
  Calls Tryz.prog 74 #[.agg #[.int .i64 (a 0),.int .i64 (a 1),.int .i64 (a 2),.int .i64 (a 3),.int .i64 (a 4),.int .i64 (a 5),.int .i64 (a 6),.int .i64 (a 7)],.agg #[.int .i64 (b 0),.int .i64 (b 1),.int .i64 (b 2),.int .i64 (b 3),.int .i64 (b 4),.int .i64 (b 5),.int .i64 (b 6),.int .i64 (b 7)]] w fun e w'=>e = .returned (.int .i64 (Eu a b))∧Ext w w':=by
 have hq:=fun W=>Dk a b W
 cases he:Gl a b with
 | true =>
  rw [he] at hq
  go_enter Tryz.func74,Tryz.ntmps74
  go_wp2
  go_ret
  refine ⟨?_,((Ext.refl _).alloc _).alloc _⟩
  rw [Eu,Ig 8 0 fun i _ h=>DH.1 he i (by omega)]
  rfl
 | false =>
  rw [he] at hq
  have hne:¬ ∀ i,i<8→a i = b i:=fun h=>by rw [DH.2 h] at he;cases he
  clear he
  replace hne:=Ad hne
  have hA:Hid (Blk ((w.alloc (.cells #[.int .i64 (a 0),.int .i64 (a 1),.int .i64 (a 2),.int .i64 (a 3),.int .i64 (a 4),.int .i64 (a 5),.int .i64 (a 6),.int .i64 (a 7)] 55)).alloc (.cells #[.int .i64 (b 0),.int .i64 (b 1),.int .i64 (b 2),.int .i64 (b 3),.int .i64 (b 4),.int .i64 (b 5),.int .i64 (b 6),.int .i64 (b 7)] 55)) w.heap.size 55 (c8 a)):=(Blk.new _ _ _).alloc _
  have hB:Hid (Blk ((w.alloc (.cells #[.int .i64 (a 0),.int .i64 (a 1),.int .i64 (a 2),.int .i64 (a 3),.int .i64 (a 4),.int .i64 (a 5),.int .i64 (a 6),.int .i64 (a 7)] 55)).alloc (.cells #[.int .i64 (b 0),.int .i64 (b 1),.int .i64 (b 2),.int .i64 (b 3),.int .i64 (b 4),.int .i64 (b 5),.int .i64 (b 6),.int .i64 (b 7)] 55)) (w.heap.size+1) 55 (c8 b)):=BI _ _ (by simp)
  have hE:Hid (Ext w ((w.alloc (.cells #[.int .i64 (a 0),.int .i64 (a 1),.int .i64 (a 2),.int .i64 (a 3),.int .i64 (a 4),.int .i64 (a 5),.int .i64 (a 6),.int .i64 (a 7)] 55)).alloc (.cells #[.int .i64 (b 0),.int .i64 (b 1),.int .i64 (b 2),.int .i64 (b 3),.int .i64 (b 4),.int .i64 (b 5),.int .i64 (b 6),.int .i64 (b 7)] 55))):=((Ext.refl _).alloc _).alloc _
  go_enter Tryz.func74,Tryz.ntmps74
  go_wp2
  generalize ((w.alloc (.cells #[.int .i64 (a 0),.int .i64 (a 1),.int .i64 (a 2),.int .i64 (a 3),.int .i64 (a 4),.int .i64 (a 5),.int .i64 (a 6),.int .i64 (a 7)] 55)).alloc (.cells #[.int .i64 (b 0),.int .i64 (b 1),.int .i64 (b 2),.int .i64 (b 3),.int .i64 (b 4),.int .i64 (b 5),.int .i64 (b 6),.int .i64 (b 7)] 55)) = w1 at *
  go_loopw [5] (fun i wr=>∃ k:Nat,k<8∧i = .int .i64 k∧Hid ((¬ ∀ i,k≤i→i<8→a i = b i)∧Eu a b = Ek a b k (8 - k)∧Blk wr w.heap.size 55 (c8 a)∧Blk wr (w.heap.size+1) 55 (c8 b)∧Ext w wr)) (fun i _=>8 - (intOf i).toNat)
  case atStart=>exact ⟨0,by omega,rfl,fun h=>hne.out fun i hi=>h i (by omega) hi,rfl,hA.out,hB.out,hE.out⟩
  case round =>
   obtain ⟨k,hk,rfl,hR⟩:=hrel
   have xa:=hR.out.2.2.1.at8 hk
   have xb:=hR.out.2.2.2.1.at8 hk
   have hs:Hid (Ek a b k (8 - k) = if a k = b k then Ek a b (k+1) (8 - (k+1)) else if a k<b k then -1 else 1):=by
    rw [show 8 - k = 8 - (k+1)+1 by omega];rfl
   have hn:Hid (a k = b k→k+1<8∧¬ ∀ i,k+1≤i→i<8→a i = b i):=fun h=>by
    have h1:¬ ∀ i,k+1≤i→i<8→a i = b i:=fun h2=>hR.out.1 fun i h3 h4=>by
     by_cases e:i = k
     ·rw [e];exact h
     ·exact h2 i (by omega) h4
    refine ⟨?_,h1⟩
    by_cases hk':k+1<8
    ·exact hk'
    ·exact absurd (fun i h3 h4=>by omega) h1
   generalize a k = x at *
   generalize b k = y at *
   by_cases hxy:x = y
   ·have hn':=hn.out hxy
    have hs':=hs.out
    rw [if_pos hxy] at hs'
    replace hs':=Ad (hR.out.2.1.trans hs')
    have hk1:=hn'.1
    replace hn':=Ad hn'.2
    go_wp2
    go_quiet (fail)
    go_wp2
    exact ⟨⟨k+1,hk1,by simp,hn'.out,hs'.out,hR.out.2.2.1,hR.out.2.2.2.1,hR.out.2.2.2.2.drewN _⟩,by simp [intOf];omega⟩
   ·have hs':=hs.out
    rw [if_neg hxy] at hs'
    replace hs':=Ad (hR.out.2.1.trans hs')
    by_cases hlt:x<y
    ·rw [if_pos hlt] at hs'
     go_wp2
     go_quiet (fail)
     go_wp2
     go_quiet (fail)
     go_wp2
     go_ret
     exact ⟨by rw [hs'.out];rfl,(hR.out.2.2.2.2.drewN _).drewN _⟩
    ·rw [if_neg hlt] at hs'
     go_wp2
     go_quiet (fail)
     go_wp2
     go_quiet (fail)
     go_wp2
     go_ret
     exact ⟨by rw [hs'.out];rfl,(hR.out.2.2.2.2.drewN _).drewN _⟩
def HW (R : List (Nat→Int)) (k:Nat):Nat→Int:=R.getD k (fun _=>0)
def RowsAt (κ : IntKind) (t:TypeId) (w:World) (v:Value) (R:List (Nat→Int)):Prop :=
 ∃ (A:Option Addr) (c:Nat),v = .slice A R.length c∧R.length≤c∧c≤9223372036854775807 ∧
  (0<R.length→∃ (b o:Nat) (cs:Array Value) (fz:Nat × Nat),A = some ⟨b,o,none⟩∧w.heap[b]? = some (.cells cs t fz)∧∀ k j,k<R.length→j<8→cs[o+k*8+j]? = some (.int κ (HW R k j)))
theorem RowsAt.ext {κ : IntKind} {t:TypeId} {w w':World} {v:Value} {R:List (Nat→Int)} (h:RowsAt κ t w v R) (he:Ext w w'):RowsAt κ t w' v R:=by
 obtain ⟨A,c,h1,h2,h3,h4⟩:=h
 refine ⟨A,c,h1,h2,h3,fun hp=>?_⟩
 obtain ⟨b,o,cs,fz,h5,h6,h7⟩:=h4 hp
 exact ⟨b,o,cs,fz,h5,(he.block (At h6)).trans h6,h7⟩
theorem RowsAt.open_ {κ : IntKind} {t:TypeId} {w:World} {v:Value} {R:List (Nat→Int)} (h:RowsAt κ t w v R):∃ (A:Option Addr) (c:Nat),v = .slice A R.length c∧R.length≤c∧c≤9223372036854775807 ∧
  (0<R.length→∃ (b o:Nat),A = some ⟨b,o,none⟩∧b<w.heap.size∧∀ k j,k<R.length→j<8→w.cell? ⟨b,o+k*8+j,none⟩ = some (.int κ (HW R k j))):=by
 obtain ⟨A,c,h1,h2,h3,h4⟩:=h
 refine ⟨A,c,h1,h2,h3,fun hp=>?_⟩
 obtain ⟨b,o,cs,fz,h5,h6,h7⟩:=h4 hp
 exact ⟨b,o,h5,At h6,fun k j hk hj=>(AO h6).trans (h7 k j hk hj)⟩
def Jd (r a b:Nat→Int) (k:Nat):Int:=CI (fun i=>r i*(a i - b i)) k
def EP : List (Nat→Int)→(Nat→Int)→(Nat→Int)→Int
 | [],_,_=>0
 | r :: R,a,b=>if Jd r a b 8<0 then -1 else if 0<Jd r a b 8 then 1 else EP R a b
def EV (R : List (Nat→Int)) (a b:Nat→Int):Int:=if EP R a b = 0 then Eu a b else EP R a b
theorem JO {a : Nat→Int}:∀ {k:Nat},(∀ i,i<k→a i = 0)→CI a k = 0
 | 0,_=>rfl
 | k+1,h=>by rw [CI,JO fun i hi=>h i (by omega),h k (by omega)];rfl
theorem KC {a b:Nat→Int} (h:∀ i,i<8→a i = b i):∀ R,EP R a b = 0
 | []=>rfl
 | r :: R=>by
  have:Jd r a b 8 = 0:=JO fun i hi=>by rw [h i hi,Int.sub_self,Int.mul_zero]
  rw [EP,this,if_neg (by omega),if_neg (by omega),KC h R]
theorem WF {a b:Nat→Int} (h:∀ i,i<8→a i = b i) (R:List (Nat→Int)):EV R a b = 0:=by
 rw [EV,KC h,if_pos rfl,Eu,Ig 8 0 fun i _ hi=>h i (by omega)]
def rl (R : List (Nat→Int)):List Value:=R.flatMap fun a=>(c8 a).toList
theorem Mw (a : Nat→Int) (R:List (Nat→Int)):rl (a :: R) = (c8 a).toList ++ rl R:=rfl
theorem IE : ∀ R:List (Nat→Int),(rl R).length = R.length*8
 | []=>rfl
 | a :: R=>by rw [Mw,List.length_append,IE R];simp [c8];omega
theorem PE (a : Nat→Int) (R:List (Nat→Int)) (k:Nat):HW (a :: R) (k+1) = HW R k:=by simp [HW]
theorem Ub : ∀ (R:List (Nat→Int)) (k j:Nat),k<R.length→j<8→(rl R)[k*8+j]? = some (.int .i64 (HW R k j))
 | [],k,j,h,_=>by simp at h
 | a :: R,0,j,_,hj=>by
  rw [Mw,List.getElem?_append_left (by simp [c8];omega),Nat.zero_mul,Nat.zero_add,Array.getElem?_toList,Vk a j hj]
  rfl
 | a :: R,k+1,j,hk,hj=>by
  rw [Mw,List.getElem?_append_right (by simp [c8];omega),PE,← Ub R k j (by simpa using hk) hj]
  congr 1
  simp [c8]
  omega
def OwnRows (t : TypeId) (base:Nat) (w:World) (v:Value) (R:List (Nat→Int)):Prop:=w.ownsRow base t 8 v R.length (rl R)
theorem OwnRows.nil (t : TypeId) (base:Nat) (w:World):OwnRows t base w (.slice none 0 0) []:=⟨rfl,.inl ⟨rfl,rfl⟩⟩
theorem OwnRows.ext {t : TypeId} {base:Nat} {w w':World} {v:Value} {R:List (Nat→Int)} (h:OwnRows t base w v R) (he:Ext w w'):OwnRows t base w' v R:=by
 obtain ⟨h1,h2⟩:=h
 refine ⟨h1,?_⟩
 rcases h2 with h2 | ⟨g,cap,cur,h3,h4,hg,h5⟩
 ·exact .inl h2
 ·exact .inr ⟨g,cap,cur,h3,h4,(he.block (At hg)).trans hg,h5⟩
theorem NY (a : Nat→Int) (w:World) (h:In8 a 0 65535) :
  Calls Tryz.prog 87 #[.agg #[.int .i64 (a 0),.int .i64 (a 1),.int .i64 (a 2),.int .i64 (a 3),.int .i64 (a 4),.int .i64 (a 5),.int .i64 (a 6),.int .i64 (a 7)]] w fun e w'=>e = .returned (.bool true)∧Ext w w':=by
 replace h:=Ad h
 go_enter Tryz.func87,Tryz.ntmps87
 go_wp2
 go_loopw [6] (fun i wr=>∃ k:Nat,k≤8∧i = .int .i64 k∧Hid (Ext w wr)) (fun i _=>8 - (intOf i).toNat)
 case atStart=>exact ⟨0,by omega,rfl,(Ext.refl _).alloc _⟩
 case round =>
  obtain ⟨k,hk,rfl,hE⟩:=hrel
  by_cases hlt:k<8
  ·have hx:=fun W=>Eh a k hlt W
   have hb':=h.out k hlt
   generalize a k = x at *
   have h1:decide (x<0) = false:=by simp;omega
   have h2:decide (65535<x) = false:=by simp;omega
   go_wp2
   exact ⟨⟨k+1,hlt,by simp,hE⟩,by simp [intOf];omega⟩
  ·obtain rfl : k = 8 := by omega
   go_wp2
   go_ret
   exact ⟨rfl,hE.out⟩
theorem MJ (a : Nat→Int) (w:World) (h:¬ In8 a 0 65535) :
  Calls Tryz.prog 87 #[.agg #[.int .i64 (a 0),.int .i64 (a 1),.int .i64 (a 2),.int .i64 (a 3),.int .i64 (a 4),.int .i64 (a 5),.int .i64 (a 6),.int .i64 (a 7)]] w fun e w'=>e = .returned (.bool false)∧Ext w w':=by
 replace h:=Ad h
 go_enter Tryz.func87,Tryz.ntmps87
 go_wp2
 go_loopw [6] (fun i wr=>∃ k:Nat,k≤8∧i = .int .i64 k∧Hid (Ext w wr∧∀ i,i<k→0≤a i∧a i≤65535)) (fun i _=>8 - (intOf i).toNat)
 case atStart=>exact ⟨0,by omega,rfl,(Ext.refl _).alloc _,fun i hi=>by omega⟩
 case round =>
  obtain ⟨k,hk,rfl,hE⟩:=hrel
  by_cases hlt:k<8
  ·have hx:=fun W=>Eh a k hlt W
   have hs:Hid (0≤a k∧a k≤65535→∀ i,i<k+1→0≤a i∧a i≤65535):=fun h i hi=>by
    by_cases e:i = k
    ·rw [e];exact h
    ·exact hE.out.2 i (by omega)
   generalize a k = x at *
   by_cases h1:x<0
   ·have h1' : decide (x < 0) = true := by simpa using h1
    go_wp2
    go_ret
    exact ⟨rfl,hE.out.1⟩
   ·have h1' : decide (x < 0) = false := by simpa using h1
    by_cases h2:65535<x
    ·have h2' : decide (65535 < x) = true := by simpa using h2
     go_wp2
     go_ret
     exact ⟨rfl,hE.out.1⟩
    ·have h2' : decide (65535 < x) = false := by simpa using h2
     go_wp2
     exact ⟨⟨k+1,hlt,by simp,hE.out.1,hs.out ⟨by omega,by omega⟩⟩,by simp [intOf];omega⟩
  ·obtain rfl : k = 8 := by omega
   exact absurd hE.out.2 h.out
def MX (a b:Nat→Int) (i:Nat):Int:=a i+b i
theorem Xh : ∀ m:Nat,m<256→∀ k:Nat,k<8→bits BinOp.or IntKind.u8 (m:Int) (2 ^ k) = (m ||| 2 ^ k:Nat):=by decide +kernel
def BS (a : Nat→Int):Nat→Nat
 | 0=>0
 | k+1=>if 0<a k then BS a k ||| 2 ^ k else BS a k
theorem DT (a : Nat→Int):∀ k,BS a k<2 ^ k
 | 0=>by simp [BS]
 | k+1=>by
  have ih:=DT a k
  have h2:2 ^ k<2 ^ (k+1):=Nat.pow_lt_pow_right (by omega) (by omega)
  rw [BS]
  split
  ·exact Nat.or_lt_two_pow (by omega) h2
  ·omega
theorem FU (a : Nat→Int):∀ k i,i<k→(BS a k).testBit i = decide (0<a i)
 | 0,i,h=>by omega
 | k+1,i,h=>by
  have hl:=DT a k
  rw [BS]
  by_cases e:i = k
  ·subst e
   split
   ·rename_i h1;rw [Nat.testBit_or,Nat.testBit_two_pow_self,Bool.or_true];simp [h1]
   ·rename_i h1;rw [Nat.testBit_lt_two_pow hl];simp [h1]
  ·have ih := FU a k i (by omega)
   split
   ·rw [Nat.testBit_or,Nat.testBit_two_pow_of_ne (fun h=>e h.symm),Bool.or_false,ih]
   ·exact ih
theorem OQ (a : Nat→Int) (w:World) :
  Calls Tryz.prog 88 #[.agg #[.int .i64 (a 0),.int .i64 (a 1),.int .i64 (a 2),.int .i64 (a 3),.int .i64 (a 4),.int .i64 (a 5),.int .i64 (a 6),.int .i64 (a 7)]] w fun e w'=>e = .returned (.int .u8 (BS a 8))∧Ext w w':=by
 go_enter Tryz.func88,Tryz.ntmps88
 go_wp2
 go_loopw [3,7] (fun s i wr=>∃ k:Nat,k≤8∧i = .int .i64 k∧s = .int .u8 (BS a k)∧Hid (Ext w wr)) (fun _ i _=>8 - (intOf i).toNat)
 case atStart=>exact ⟨0,by omega,rfl,rfl,(Ext.refl _).alloc _⟩
 case round =>
  obtain ⟨k,hk,rfl,rfl,hE⟩:=hrel
  by_cases hlt:k<8
  ·have hx:=fun W=>Eh a k hlt W
   have hb:=DT a k
   have hb2:BS a k<256:=Nat.lt_of_lt_of_le hb (Nat.pow_le_pow_right (n:=2) (by omega) (show k≤8 by omega))
   clear hb
   have hs:Hid (BS a (k+1) = if 0<a k then BS a k ||| 2 ^ k else BS a k):=rfl
   generalize BS a k = s at *
   generalize a k = x at *
   by_cases h1:0<x
   ·have hs':=hs.out
    rw [if_pos h1] at hs'
    replace hs':=Ad hs'
    clear hs
    have hm:Hid ((2:Int) ^ k % 256 = 2 ^ k):=by
     rcases lt8 hlt with rfl | rfl | rfl | rfl | rfl | rfl | rfl | rfl <;> rfl
    go_wp2
    exact ⟨⟨k+1,hlt,by simp,by rw [hs'.out,hm.out,Xh s hb2 k hlt],hE⟩,by simp [intOf];omega⟩
   ·have hs':=hs.out
    rw [if_neg h1] at hs'
    replace hs':=Ad hs'
    clear hs
    go_wp2
    exact ⟨⟨k+1,hlt,by simp,by rw [hs'.out],hE⟩,by simp [intOf];omega⟩
  ·obtain rfl : k = 8 := by omega
   go_wp2
   go_ret
   exact ⟨rfl,hE.out⟩
def Gw (n : Nat) (f:Nat→Nat→Int):List (Nat→Int):=(List.range n).map f
theorem DE (n : Nat) (f:Nat→Nat→Int):(Gw n f).length = n:=by simp [Gw]
theorem Mv {n : Nat} (f:Nat→Nat→Int) {k:Nat} (h:k<n):HW (Gw n f) k = f k:=by
 simp [HW,Gw,List.getD_eq_getElem?_getD,h]
def GridAt (w : World) (g c:Nat) (t:TypeId) (n:Nat) (f:Nat→Nat→Int):Prop :=
 ∃ cur:Array Value,w.heap[g]? = some (.cells cur t (0,0))∧cur.size = c*8∧n≤c∧c≤maxLen∧∀ i j,i<n→j<8→cur[i*8+j]? = some (.int .i64 (f i j))
theorem GridAt.cell {w : World} {g c:Nat} {t:TypeId} {n:Nat} {f:Nat→Nat→Int} (h:GridAt w g c t n f) {i j:Nat} (hi:i<n) (hj:j<8):w.cell? ⟨g,i*8+j,none⟩ = some (.int .i64 (f i j)):=by
 obtain ⟨cur,h1,_,_,_,h5⟩:=h
 exact (AO h1).trans (h5 i j hi hj)
theorem GridAt.frozen {w : World} {g c:Nat} {t:TypeId} {n:Nat} {f:Nat→Nat→Int} (h:GridAt w g c t n f) (i:Nat):w.frozen? ⟨g,i,none⟩ = false:=by
 obtain ⟨cur,h1,_⟩:=h
 exact Blk.frozen (cs:=cur) h1 i
theorem GridAt.set {w : World} {g c:Nat} {t:TypeId} {n:Nat} {f f':Nat→Nat→Int} (h:GridAt w g c t n f) {i j:Nat} (hi:i<n) (hj:j<8) {v:Int} (h1:v = f' i j) (h2:∀ a b,a<n→b<8→¬ (a = i∧b = j)→f' a b = f a b):GridAt (w.setCell ⟨g,i*8+j,none⟩ (.int .i64 v)) g c t n f':=by
 obtain ⟨cur,k1,k2,k3,k4,k5⟩:=h
 refine ⟨_,Blk.set (cs:=cur) k1 (i*8+j) (.int .i64 v),by simpa using k2,k3,k4,fun a b ha hb=>?_⟩
 by_cases e:a = i∧b = j
 ·obtain ⟨rfl,rfl⟩:=e
  rw [Array.getElem?_setIfInBounds_self_of_lt (by omega),h1]
 ·rw [Array.getElem?_setIfInBounds_ne (by omega),k5 a b ha hb,h2 a b ha hb e]
theorem GridAt.ext {w w':World} {g c:Nat} {t:TypeId} {n:Nat} {f:Nat→Nat→Int} (h:GridAt w g c t n f) (he:Ext w w'):GridAt w' g c t n f:=by
 obtain ⟨cur,k1,k2⟩:=h
 exact ⟨cur,(he.block (At k1)).trans k1,k2⟩
theorem GridAt.drewN {w : World} {g c:Nat} {t:TypeId} {n:Nat} {f:Nat→Nat→Int} (h:GridAt w g c t n f) (m:Nat):GridAt (w.drewN m) g c t n f:=h
theorem Wy (n : Nat) (f:Nat→Nat→Int) {q:Nat} (h:q<n*8):(rl (Gw n f))[q]? = some (.int .i64 (f (q / 8) (q % 8))):=by
 have:=Ub (Gw n f) (q / 8) (q % 8) (by rw [DE];omega) (by omega)
 rw [show q / 8*8+q % 8 = q by omega,Mv f (show q / 8<n by omega)] at this
 exact this
theorem GridAt.own {w : World} {g c:Nat} {t:TypeId} {n base:Nat} {f:Nat→Nat→Int} (h:GridAt w g c t n f) (hb:base≤g):OwnRows t base w (.slice (some ⟨g,0,none⟩) n c) (Gw n f):=by
 obtain ⟨cur,k1,k2,k3,k4,k5⟩:=h
 refine ⟨by rw [IE],.inr ⟨g,c,cur,by rw [DE],hb,k1,by rw [DE];exact k3,k4,k2,?_⟩⟩
 rw [DE]
 refine List.ext_getElem? fun q=>?_
 rw [List.getElem?_take]
 by_cases hq:q<n*8
 ·rw [if_pos hq,Wy n f hq,Array.getElem?_toList]
  have:=k5 (q / 8) (q % 8) (by omega) (by omega)
  rwa [show q / 8*8+q % 8 = q by omega] at this
 ·rw [if_neg hq,List.getElem?_eq_none (by rw [IE,DE];omega)]
def OwnGrid (t : TypeId) (base:Nat) (w:World) (A:Option Addr) (c n:Nat) (f:Nat→Nat→Int):Prop :=
 (n = 0∧OwnRows t base w (.slice A 0 c) [])∨(0<n∧∃ g,A = some ⟨g,0,none⟩∧base≤g∧GridAt w g c t n f)
theorem OwnGrid.own {t : TypeId} {base:Nat} {w:World} {A:Option Addr} {c n:Nat} {f:Nat→Nat→Int} (h:OwnGrid t base w A c n f):OwnRows t base w (.slice A n c) (Gw n f):=by
 rcases h with ⟨rfl,h⟩ | ⟨_,g,rfl,hb,h⟩
 ·exact h
 ·exact h.own hb
theorem OwnGrid.drewN {t : TypeId} {base:Nat} {w:World} {A:Option Addr} {c n:Nat} {f:Nat→Nat→Int} (h:OwnGrid t base w A c n f) (m:Nat):OwnGrid t base (w.drewN m) A c n f:=h
theorem OwnGrid.ext {t : TypeId} {base:Nat} {w w':World} {A:Option Addr} {c n:Nat} {f:Nat→Nat→Int} (h:OwnGrid t base w A c n f) (he:Ext w w'):OwnGrid t base w' A c n f:=by
 rcases h with ⟨rfl,h⟩ | ⟨h0,g,rfl,hb,h⟩
 ·exact .inl ⟨rfl,h.ext he⟩
 ·exact .inr ⟨h0,g,rfl,hb,h.ext he⟩
def RowsIn (κ : IntKind) (w:World) (v:Value) (R:List (Nat→Int)):Prop :=
 ∃ (A:Option Addr) (c:Nat),v = .slice A R.length c∧R.length≤c∧c≤9223372036854775807 ∧
  (0<R.length→∃ (b o:Nat),A = some ⟨b,o,none⟩∧b<w.heap.size∧∀ k j,k<R.length→j<8→w.cell? ⟨b,o+k*8+j,none⟩ = some (.int κ (HW R k j)))
theorem RowsIn.ext {κ : IntKind} {w w':World} {v:Value} {R:List (Nat→Int)} (h:RowsIn κ w v R) (he:Ext w w'):RowsIn κ w' v R:=by
 obtain ⟨A,c,h1,h2,h3,h4⟩:=h
 refine ⟨A,c,h1,h2,h3,fun hp=>?_⟩
 obtain ⟨b,o,h5,h6,h7⟩:=h4 hp
 exact ⟨b,o,h5,Nat.lt_of_lt_of_le h6 he.size,fun k j hk hj=>he.cellv (h7 k j hk hj)⟩
def Ho (a b:Nat→Int) (i:Nat):Int:=a i - b i
def Dc (d : Nat→Int):Nat→Nat→Int
 | _,0=>0
 | k,n+1=>if d k = 0 then Dc d (k+1) n else if d k<0 then -1 else 1
def EE (r d:Nat→Int):Int:=CI (fun i=>r i*d i) 8
def FG : List (Nat→Int)→(Nat→Int)→Int
 | [],d=>Dc d 0 8
 | r :: R,d=>if EE r d<0 then -1 else if 0<EE r d then 1 else FG R d
theorem GR (a b:Nat→Int):∀ (n k:Nat),Ek a b k n = Dc (Ho a b) k n
 | 0,_=>rfl
 | n+1,k=>by
  rw [Ek,Dc,GR a b n (k+1)]
  have e:Ho a b k = a k - b k:=rfl
  generalize Ho a b k = d at *
  by_cases h:a k = b k
  ·rw [if_pos h,if_pos (by omega)]
  ·by_cases h1:a k<b k
   ·simp only [if_neg h,if_pos h1];rw [if_neg (by omega),if_pos (by omega)]
   ·simp only [if_neg h,if_neg h1];rw [if_neg (by omega),if_neg (by omega)]
theorem DF (a b:Nat→Int):∀ R:List (Nat→Int),EV R a b = FG R (Ho a b)
 | []=>by rw [EV,EP,if_pos rfl];exact GR a b 8 0
 | r :: R=>by
  have ih:=DF a b R
  unfold EV at ih ⊢
  rw [EP,FG,← ih]
  show (if (if Jd r a b 8<0 then _ else _) = 0 then _ else _) = if Jd r a b 8<0 then _ else if 0<Jd r a b 8 then _ else _
  by_cases h1:Jd r a b 8<0
  ·simp only [if_pos h1];rw [if_neg (by omega)]
  ·simp only [if_neg h1]
   by_cases h2:0<Jd r a b 8
   ·simp only [if_pos h2];rw [if_neg (by omega)]
   ·simp only [if_neg h2]
theorem Lw (a b:Nat→Int):∀ k,CI (fun i=>a i+b i) k = CI a k+CI b k
 | 0=>rfl
 | k+1=>by simp only [CI,Lw a b k];omega
theorem Lv (a : Nat→Int):∀ k,CI (fun i=>-(a i)) k = -(CI a k)
 | 0=>rfl
 | k+1=>by simp only [CI,Lv a k];omega
theorem Fk {a b:Nat→Int}:∀ {k:Nat},(∀ i,i<k→a i = b i)→CI a k = CI b k
 | 0,_=>rfl
 | k+1,h=>by rw [CI,CI,Fk fun i hi=>h i (by omega),h k (by omega)]
theorem SM (r d e:Nat→Int):EE r (MX d e) = EE r d+EE r e:=by
 unfold EE
 rw [← Lw]
 exact Fk fun i _=>by simp only [MX,Int.mul_add]
theorem SL (r d:Nat→Int):EE r (fun i=>-(d i)) = -(EE r d):=by
 unfold EE
 rw [← Lv]
 exact Fk fun i _=>by rw [Int.mul_neg]
theorem OF {r d e:Nat→Int} (h:∀ i,i<8→d i = e i):EE r d = EE r e:=Fk fun i hi=>by rw [h i hi]
theorem IU {d e:Nat→Int}:∀ (n k:Nat),(∀ i,k≤i→i<k+n→d i = e i)→Dc d k n = Dc e k n
 | 0,_,_=>rfl
 | n+1,k,h=>by rw [Dc,Dc,h k (by omega) (by omega),IU n (k+1) fun i h1 h2=>h i (by omega) (by omega)]
theorem FW {d e:Nat→Int} (h:∀ i,i<8→d i = e i):∀ R:List (Nat→Int),FG R d = FG R e
 | []=>IU 8 0 fun i _ hi=>h i (by omega)
 | r :: R=>by rw [FG,FG,OF h,FW h R]
theorem LA (d : Nat→Int):∀ (n k:Nat),Dc (fun i=>-(d i)) k n = -(Dc d k n)
 | 0,_=>rfl
 | n+1,k=>by
  simp only [Dc]
  rw [LA d n (k+1)]
  by_cases h:d k = 0
  ·rw [if_pos h,if_pos (by omega)]
  ·rw [if_neg h, if_neg (by omega)]
   by_cases h1:d k<0
   ·rw [if_pos h1,if_neg (by omega)];rfl
   ·rw [if_neg h1,if_pos (by omega)]
theorem NR (d : Nat→Int):∀ R:List (Nat→Int),FG R (fun i=>-(d i)) = -(FG R d)
 | []=>LA d 8 0
 | r :: R=>by
  simp only [FG]
  rw [SL,NR d R]
  by_cases h:EE r d<0
  ·rw [if_pos h,if_neg (by omega),if_pos (by omega)];rfl
  ·rw [if_neg h]
   by_cases h1:0<EE r d
   ·rw [if_pos h1,if_pos (by omega)]
   ·rw [if_neg h1,if_neg (by omega),if_neg (by omega)]
theorem JT {d : Nat→Int}:∀ (n k:Nat),Dc d k n = 0→∀ i,k≤i→i<k+n→d i = 0
 | 0,_,_,i,h1,h2=>by omega
 | n+1,k,h,i,h1,h2=>by
  rw [Dc] at h
  split at h
  ·rename_i h0
   by_cases e:i = k
   ·rw [e];exact h0
   ·exact JT n (k+1) h i (by omega) (by omega)
  ·split at h <;> omega
theorem LJ {d : Nat→Int}:∀ {R:List (Nat→Int)},FG R d = 0→∀ i,i<8→d i = 0
 | [],h,i,hi=>JT 8 0 h i (by omega) (by omega)
 | r :: R,h,i,hi=>by
  rw [FG] at h
  split at h
  ·omega
  ·split at h
   ·omega
   ·exact LJ h i hi
theorem LB {d e:Nat→Int}:∀ (n k:Nat),0≤Dc d k n→0≤Dc e k n→(0≤Dc (MX d e) k n∧(0<Dc d k n∨0<Dc e k n→0<Dc (MX d e) k n))
 | 0,_,_,_=>⟨by simp [Dc],by simp [Dc]⟩
 | n+1,k,h1,h2=>by
  rw [Dc] at h1 h2
  simp only [Dc]
  have ha:MX d e k = d k+e k:=rfl
  by_cases hd:d k = 0
  ·rw [if_pos hd] at h1 ⊢
   by_cases he:e k = 0
   ·rw [if_pos he] at h2 ⊢
    rw [if_pos (by omega)]
    exact LB n (k+1) h1 h2
   ·rw [if_neg he] at h2 ⊢
    by_cases he':e k<0
    ·rw [if_pos he'] at h2;omega
    ·rw [if_neg he',if_neg (by omega),if_neg (by omega)];exact ⟨by omega,fun _=>by omega⟩
  ·rw [if_neg hd] at h1 ⊢
   by_cases hd':d k<0
   ·rw [if_pos hd'] at h1;omega
   ·by_cases he:e k = 0
    ·rw [if_pos he,if_neg hd',if_neg (by omega),if_neg (by omega)];exact ⟨by omega,fun _=>by omega⟩
    ·rw [if_neg he] at h2 ⊢
     by_cases he':e k<0
     ·rw [if_pos he'] at h2;omega
     ·rw [if_neg hd',if_neg he',if_neg (by omega),if_neg (by omega)];exact ⟨by omega,fun _=>by omega⟩
theorem NS {d e:Nat→Int}:∀ {R:List (Nat→Int)},0≤FG R d→0≤FG R e→(0≤FG R (MX d e)∧(0<FG R d∨0<FG R e→0<FG R (MX d e)))
 | [],h1,h2=>LB 8 0 h1 h2
 | r :: R,h1,h2=>by
  rw [FG] at h1 h2
  simp only [FG]
  rw [SM]
  by_cases a1:EE r d<0
  ·rw [if_pos a1] at h1;omega
  ·by_cases b1:EE r e<0
   ·rw [if_pos b1] at h2;omega
   ·rw [if_neg a1] at h1 ⊢
    rw [if_neg b1] at h2 ⊢
    rw [if_neg (by omega)]
    by_cases a2:0<EE r d
    ·rw [if_pos a2,if_pos (by omega)];exact ⟨by omega,fun _=>by omega⟩
    ·rw [if_neg a2] at h1 ⊢
     by_cases b2:0<EE r e
     ·rw [if_pos b2,if_pos (by omega)];exact ⟨by omega,fun _=>by omega⟩
     ·rw [if_neg b2] at h2 ⊢
      rw [if_neg (by omega)]
      exact NS h1 h2
theorem Uq (R : List (Nat→Int)) (a b:Nat→Int):EV R b a = -(EV R a b):=by
 rw [DF,DF,← NR]
 exact FW (fun i _=>by simp only [Ho];omega) R
theorem Sr {R : List (Nat→Int)} {a b:Nat→Int}:EV R a b = 0↔∀ i,i<8→a i = b i:=by
 constructor
 ·intro h i hi
  rw [DF] at h
  have:=LJ h i hi
  simp only [Ho] at this
  omega
 ·intro h;exact WF h R
theorem Ht {R : List (Nat→Int)} {a b c:Nat→Int} (h1:0≤EV R a b) (h2:0≤EV R b c):0≤EV R a c∧(0<EV R a b∨0<EV R b c→0<EV R a c):=by
 rw [DF] at h1 h2
 rw [DF a c R,DF a b R,DF b c R]
 rw [FW (d:=Ho a c) (e:=MX (Ho a b) (Ho b c)) (fun i _=>by simp only [Ho,MX];omega) R]
 exact NS h1 h2
theorem PJ {R : List (Nat→Int)} {a b a' b':Nat→Int} (h1:∀ i,i<8→a i = a' i) (h2:∀ i,i<8→b i = b' i):EV R a b = EV R a' b':=by
 rw [DF,DF]
 exact FW (fun i hi=>by simp only [Ho,h1 i hi,h2 i hi]) R
def Eqv (a b:Nat→Int):Prop:=∀ i,i<8→a i = b i
theorem Eqv.refl (a : Nat→Int):Eqv a a:=fun _ _=>rfl
theorem Eqv.symm {a b:Nat→Int} (h:Eqv a b):Eqv b a:=fun i hi=>(h i hi).symm
theorem Eqv.trans {a b c:Nat→Int} (h:Eqv a b) (k:Eqv b c):Eqv a c:=fun i hi=>(h i hi).trans (k i hi)
structure Tm where
 c:Rat
 m:Nat→Int
instance : Inhabited Tm:=⟨⟨0,fun _=>0⟩⟩
def lx (a b:Nat→Int):Int:=EV [] a b
theorem Es (a b:Nat→Int):lx b a = -(lx a b):=Uq _ _ _
theorem Fp {a b:Nat→Int}:lx a b = 0↔Eqv a b:=Sr
theorem FI {a b a' b':Nat→Int} (h1:Eqv a a') (h2:Eqv b b'):lx a b = lx a' b':=PJ h1 h2
theorem UJ {a b c:Nat→Int} (h1:0<lx a b) (h2:0<lx b c):0<lx a c:=(Ht (Int.le_of_lt h1) (Int.le_of_lt h2)).2 (.inl h1)
theorem ML (a : Nat→Int):lx a a = 0:=Fp.2 (Eqv.refl a)
def Pq (f : (Nat→Int)→Rat):List Tm→Rat
 | []=>0
 | t :: P=>t.c*f t.m+Pq f P
def A13 (f : (Nat→Int)→Rat):Prop:=∀ a b,Eqv a b→f a = f b
def Sim (P Q:List Tm):Prop:=∀ f,A13 f→Pq f P = Pq f Q
theorem Sim.refl (P : List Tm):Sim P P:=fun _ _=>rfl
theorem Sim.symm {P Q:List Tm} (h:Sim P Q):Sim Q P:=fun f hf=>(h f hf).symm
theorem Sim.trans {P Q R:List Tm} (h:Sim P Q) (k:Sim Q R):Sim P R:=fun f hf=>(h f hf).trans (k f hf)
theorem Gc (f : (Nat→Int)→Rat):∀ P Q:List Tm,Pq f (P ++ Q) = Pq f P+Pq f Q
 | [],Q=>by simp [Pq,Rat.zero_add]
 | t :: P,Q=>by simp only [List.cons_append,Pq,Gc f P Q];grind
theorem Sim.append {P P' Q Q':List Tm} (h1:Sim P P') (h2:Sim Q Q'):Sim (P ++ Q) (P' ++ Q'):=fun f hf=>by rw [Gc,Gc,h1 f hf,h2 f hf]
def SameL : List Tm→List Tm→Prop
 | [],[]=>True
 | s :: P,t :: Q=>s.c = t.c∧Eqv s.m t.m∧SameL P Q
 | _,_=>False
theorem SameL.refl : ∀ P:List Tm,SameL P P
 | []=>trivial
 | t :: P=>⟨rfl,Eqv.refl _,SameL.refl P⟩
theorem SameL.length : ∀ {P Q:List Tm},SameL P Q→P.length = Q.length
 | [],[],_=>rfl
 | _ :: _,_ :: _,h=>by simp [SameL.length h.2.2]
 | [],_ :: _,h=>h.elim
 | _ :: _,[],h=>h.elim
theorem SameL.sim : ∀ {P Q:List Tm},SameL P Q→Sim P Q
 | [],[],_=>Sim.refl _
 | _ :: _,_ :: _,h=>fun f hf=>by simp only [Pq];rw [h.1,hf _ _ h.2.1,SameL.sim h.2.2 f hf]
 | [],_ :: _,h=>h.elim
 | _ :: _,[],h=>h.elim
def BE : Nat→(Nat→Int)→Int
 | 0,_=>0
 | n+1,f=>BE n f+f n
theorem BT {f g:Nat→Int}:∀ {n:Nat},(∀ k,k<n→f k = g k)→BE n f = BE n g
 | 0,_=>rfl
 | n+1,h=>by rw [BE,BE,BT fun k hk=>h k (by omega),h n (by omega)]
theorem JM (f g:Nat→Int):∀ n,BE n (fun k=>f k - g k) = BE n f - BE n g
 | 0=>rfl
 | n+1=>by rw [BE,BE,BE,JM f g n];omega
theorem CH {f : Nat→Int}:∀ {n:Nat},(∀ k,k<n→f k = 0)→BE n f = 0
 | 0,_=>rfl
 | n+1,h=>by rw [BE,CH fun k hk=>h k (by omega),h n (by omega)];rfl
theorem Dj (f : Nat→Int) (a:Nat):∀ n,BE (a+n) f = BE a f+BE n fun k=>f (a+k)
 | 0=>(Int.add_zero _).symm
 | n+1=>by rw [← Nat.add_assoc,BE,BE,Dj f a n];omega
theorem IC (f : Nat→Int):∀ n,BE (n+1) f = f 0+BE n fun k=>f (k+1)
 | 0=>by simp [BE]
 | n+1=>by rw [BE,IC f n,BE];omega
theorem HO (f : Nat→Int):∀ n,BE (n+1) (fun e=>f (n - e)) = BE (n+1) f
 | 0=>rfl
 | n+1=>by
  rw [IC]
  have h:BE (n+1) (fun k=>f (n+1 - (k+1))) = BE (n+1) fun e=>f (n - e):=BT fun k _=>by congr 1;omega
  rw [h,HO f n,Nat.sub_zero]
  show _ = BE (n+1) f+f (n+1)
  omega
def sM : Nat→Nat→Nat→((Nat→Int)→Int)→Int
 | 0,_,d,f=>if d = 0 then f (fun _=>0) else 0
 | k+1,i,d,f=>BE (d+1) fun e=>sM k (i+1) (d - e) fun m=>f (fun j=>if j = i then (e:Int) else m j)
def InV (k i:Nat) (m:Nat→Int):Prop:=(∀ j,0≤m j)∧∀ j,(j<i∨i+k≤j)→m j = 0
theorem EB : ∀ {k i d:Nat} {f g:(Nat→Int)→Int},(∀ m,InV k i m→f m = g m)→sM k i d f = sM k i d g
 | 0,i,d,f,g,h=>by
  unfold sM
  rw [h _ ⟨fun _=>Int.le_refl 0,fun _ _=>rfl⟩]
 | k+1,i,d,f,g,h=>BT fun e _=>EB fun m hm=>h _ ⟨fun j=>by
   show 0≤if j = i then (e:Int) else m j
   split
   ·omega
   ·exact hm.1 j,fun j hj=>by
   show (if j = i then (e:Int) else m j) = 0
   rw [if_neg (by omega)]
   exact hm.2 j (by omega)⟩
theorem TV : ∀ (k i d:Nat) (f g:(Nat→Int)→Int),sM k i d (fun m=>f m - g m) = sM k i d f - sM k i d g
 | 0,i,d,f,g=>by
  simp only [sM]
  split <;> omega
 | k+1,i,d,f,g=>by
  unfold sM
  rw [← JM]
  exact BT fun e _=>TV k (i+1) (d - e) _ _
theorem Mu : ∀ {k i d:Nat} {f:(Nat→Int)→Int},(∀ m,InV k i m→f m = 0)→sM k i d f = 0
 | 0,i,d,f,h=>by
  unfold sM
  rw [h _ ⟨fun _=>Int.le_refl 0,fun _ _=>rfl⟩,ite_self]
 | k+1,i,d,f,h=>CH fun e _=>Mu fun m hm=>h _ ⟨fun j=>by
   show 0≤if j = i then (e:Int) else m j
   split
   ·omega
   ·exact hm.1 j,fun j hj=>by
   show (if j = i then (e:Int) else m j) = 0
   rw [if_neg (by omega)]
   exact hm.2 j (by omega)⟩
def BN : Nat→Nat→(Nat→Int)→Nat
 | 0,_,_=>0
 | k+1,i,m=>(m i).toNat+BN k (i+1) m
def GD : Nat→Nat→(Nat→Int)→(Nat→Int)→Bool
 | 0,_,_,_=>true
 | k+1,i,a,x=>decide (a i≤x i) && GD k (i+1) a x
theorem IL : ∀ {k i:Nat} {a x y:Nat→Int},(∀ j,i≤j→x j = y j)→GD k i a x = GD k i a y
 | 0,_,_,_,_,_=>rfl
 | k+1,i,a,x,y,h=>by rw [GD,GD,h i (Nat.le_refl i),IL fun j hj=>h j (by omega)]
theorem TX : ∀ (k i d:Nat) (a:Nat→Int) (f:(Nat→Int)→Int),(∀ j,0≤a j) →
  sM k i d (fun x=>bif GD k i a x then f x else 0) = if BN k i a≤d then sM k i (d - BN k i a) (fun u=>f fun j=>if i≤j∧j<i+k then u j+a j else u j) else 0
 | 0,i,d,a,f,_=>by
  have he:(fun j=>if i≤j∧j<i+0 then (0:Int)+a j else 0) = fun _=>0:=by
   funext j
   rw [if_neg (by omega)]
  show (if d = 0 then f (fun _=>0) else 0) = if 0≤d then (if d = 0 then f (fun j=>if i≤j∧j<i+0 then (0:Int)+a j else 0) else 0) else 0
  rw [he,if_pos (Nat.zero_le d)]
 | k+1,i,d,a,f,ha=>by
  have hai:=ha i
  obtain ⟨n,hn⟩:∃ n:Nat,a i = n:=⟨(a i).toNat,by omega⟩
  have hstep:∀ e:Nat,sM k (i+1) (d - e) (fun m=>bif GD (k+1) i a (fun j=>if j = i then (e:Int) else m j) then f (fun j=>if j = i then (e:Int) else m j) else 0) = if n≤e then (if BN k (i+1) a≤d - e then sM k (i+1) (d - e - BN k (i+1) a) (fun u=>f fun j=>if j = i then (e:Int) else if i+1≤j∧j<i+1+k then u j+a j else u j) else 0) else 0:=fun e=>by
   have hdv:∀ m:Nat→Int,GD (k+1) i a (fun j=>if j = i then (e:Int) else m j) = (decide (n≤e) && GD k (i+1) a m):=fun m=>by
    rw [GD,if_pos rfl,hn,IL (y:=m) fun j hj=>if_neg (by omega)]
    congr 1
    exact decide_eq_decide.2 (by omega)
   simp only [hdv]
   by_cases he:n≤e
   ·rw [if_pos he,decide_eq_true he,← TX k (i+1) (d - e) a (fun x=>f fun j=>if j = i then (e:Int) else x j) ha]
    rfl
   ·rw [if_neg he,decide_eq_false he]
    exact Mu fun m _=>rfl
  show BE (d+1) (fun e=>sM k (i+1) (d - e) fun m=>bif GD (k+1) i a (fun j=>if j = i then (e:Int) else m j) then f (fun j=>if j = i then (e:Int) else m j) else 0) = _
  rw [BT fun e _=>hstep e]
  have hdg:BN (k+1) i a = n+BN k (i+1) a:=by rw [BN,hn];rfl
  rw [hdg]
  by_cases hle:n+BN k (i+1) a≤d
  ·rw [if_pos hle]
   obtain ⟨r,rfl⟩:∃ r,d = n+BN k (i+1) a+r:=⟨d - (n+BN k (i+1) a),by omega⟩
   rw [show n+BN k (i+1) a+r+1 = n+(r+1+BN k (i+1) a) by omega,Dj,CH fun e he=>if_neg (by omega),Int.zero_add,Dj]
   rw [CH (n:=BN k (i+1) a) fun e he=>by rw [if_pos (by omega),if_neg (by omega)],Int.add_zero]
   rw [show n+BN k (i+1) a+r - (n+BN k (i+1) a) = r by omega]
   show _ = BE (r+1) _
   refine BT fun e he=>?_
   rw [if_pos (by omega),if_pos (by omega),show n+BN k (i+1) a+r - (n+e) - BN k (i+1) a = r - e by omega]
   refine EB fun u _=>?_
   congr 1
   funext j
   by_cases hj:j = i
   ·subst hj
    rw [if_pos rfl,if_pos (by omega)]
    show ((n+e:Nat):Int) = (if j = j then (e:Int) else u j)+a j
    rw [if_pos rfl]
    omega
   ·rw [if_neg hj]
    by_cases hj2:i+1≤j∧j<i+1+k
    ·rw [if_pos hj2, if_pos (by omega)]
     show _ = (if j = i then (e:Int) else u j)+a j
     rw [if_neg hj]
    ·rw [if_neg hj2, if_neg (by omega)]
     show _ = (if j = i then (e:Int) else u j)
     rw [if_neg hj]
  ·rw [if_neg hle]
   refine CH fun e he=>?_
   by_cases h1:n≤e
   ·rw [if_pos h1,if_neg (by omega)]
   ·rw [if_neg h1]
def pS (f : Nat→Int) (d:Nat):Int:=BE (d+1) f
def CD : Nat→(Nat→Int)→Nat→Int
 | 0,f=>f
 | n+1,f=>pS (CD n f)
def Gg (e : Nat) (f:Nat→Int) (d:Nat):Int:=if e≤d then f (d - e) else 0
theorem YD (f g:Nat→Int):pS (fun d=>f d - g d) = fun d=>pS f d - pS g d:=by
 funext d
 exact JM f g (d+1)
theorem A03 (e : Nat) (f:Nat→Int):pS (Gg e f) = Gg e (pS f):=by
 funext d
 unfold pS Gg
 split
 ·rename_i h
  obtain ⟨r,rfl⟩:∃ r,d = e+r:=⟨d - e,by omega⟩
  rw [show e+r+1 = e+(r+1) by omega,Dj,CH fun k hk=>if_neg (by omega),Int.zero_add,show e+r - e = r by omega]
  exact BT fun k _=>by rw [if_pos (by omega),show e+k - e = k by omega]
 ·exact CH fun k hk=>if_neg (by omega)
theorem Rh (f g:Nat→Int):∀ n,CD n (fun d=>f d - g d) = fun d=>CD n f d - CD n g d
 | 0=>rfl
 | n+1=>by
  show pS (CD n _) = _
  rw [Rh f g n,YD]
  rfl
theorem PH (e : Nat) (f:Nat→Int):∀ n,CD n (Gg e f) = Gg e (CD n f)
 | 0=>rfl
 | n+1=>by
  show pS (CD n _) = _
  rw [PH e f n,A03]
  rfl
theorem YE {f g:Nat→Int} (h:pS f = pS g):f = g:=by
 funext d
 cases d with
 | zero =>
  have:=congrFun h 0
  simpa [pS,BE] using this
 | succ d =>
  have h1:=congrFun h d
  have h2:=congrFun h (d+1)
  unfold pS at h1 h2
  rw [BE,h1,BE] at h2
  have h3:BE (d+1) g+f (d+1) = BE (d+1) g+g (d+1):=h2
  omega
theorem Jq {f g:Nat→Int}:∀ {n:Nat},CD n f = CD n g→f = g
 | 0,h=>h
 | n+1,h=>Jq (YE h)
theorem TW : ∀ (k i d:Nat),sM k i d (fun _=>1) = CD k (fun d=>if d = 0 then 1 else 0) d
 | 0,i,d=>rfl
 | k+1,i,d=>by
  show BE (d+1) (fun e=>sM k (i+1) (d - e) fun _=>1) = BE (d+1) (CD k _)
  rw [← HO (CD k fun d=>if d = 0 then 1 else 0) d]
  exact BT fun e _=>TW k (i+1) (d - e)
abbrev Af := List (Nat→Int)
def inB (l : Af) (x:Nat→Int):Bool:=l.any fun a=>GD 8 0 a x
def Gi (l : Af) (x:Nat→Int):Int:=bif inB l x then 0 else 1
def hN (n d:Nat) (l:Af):Int:=sM n 0 d (Gi l)
def SupN (n : Nat) (a:Nat→Int):Prop:=∀ j,j<8→0≤a j∧(n≤j→a j = 0)
def qM (y m:Nat→Int):Nat→Int:=fun j=>y j - min (y j) (m j)
def Num (l : Af) (K:Nat→Int):Prop:=∀ n,n≤8→(∀ a∈l,SupN n a)→∀ d,CD n K d = hN n d l
theorem Fq : ∀ {k i:Nat} {a x:Nat→Int},GD k i a x = true↔∀ j,i≤j→j<i+k→a j≤x j
 | 0,i,a,x=>⟨fun _ j h1 h2=>by omega,fun _=>rfl⟩
 | k+1,i,a,x=>by
  rw [GD,Bool.and_eq_true,decide_eq_true_iff,Fq]
  constructor
  ·intro ⟨h1,h2⟩ j h3 h4
   by_cases e:j = i
   ·subst e;exact h1
   ·exact h2 j (by omega) (by omega)
  ·intro h
   exact ⟨h i (Nat.le_refl i) (by omega),fun j h1 h2=>h j (by omega) (by omega)⟩
theorem OA {a x:Nat→Int}:GD 8 0 a x = true↔∀ j,j<8→a j≤x j:=Fq.trans ⟨fun h j hj=>h j (Nat.zero_le j) (by omega),fun h j _ hj=>h j (by omega)⟩
theorem bool_eq {p q:Bool} (h:p = true↔q = true):p = q:=by
 cases p <;> cases q <;> simp_all
theorem CR {l : Af} {x:Nat→Int}:inB l x = true↔∃ a∈l,∀ j,j<8→a j≤x j:=by
 unfold inB
 rw [List.any_eq_true]
 exact ⟨fun ⟨a,h1,h2⟩=>⟨a,h1,OA.1 h2⟩,fun ⟨a,h1,h2⟩=>⟨a,h1,OA.2 h2⟩⟩
theorem Num.ideal {l l':Af} {K:Nat→Int} (h:Num l K) (hi:∀ x,(∀ j,0≤x j)→inB l' x = inB l x) (hs:∀ n,(∀ a∈l',SupN n a)→∀ a∈l,SupN n a):Num l' K:=fun n hn hl d=>by
 rw [h n hn (hs n hl) d]
 exact EB fun m hm=>by rw [Gi,Gi,hi m hm.1]
theorem Num.nil : Num [] fun d=>if d = 0 then 1 else 0:=fun n _ _ d=>(TW n 0 d).symm.trans (EB fun _ _=>rfl)
theorem Ri : pS (fun _=>0) = fun _=>0:=by
 funext d
 exact CH fun _ _=>rfl
theorem JZ : ∀ n,CD n (fun _=>0) = fun _=>0
 | 0=>rfl
 | n+1=>by
  show pS (CD n _) = _
  rw [JZ n,Ri]
theorem Num.one {l : Af} {a:Nat→Int} (ha:a∈l) (h0:∀ j,j<8→a j = 0):Num l fun _=>0:=fun n _ _ d=>by
 rw [JZ]
 refine (Mu fun m hm=>?_).symm
 rw [Gi,CR.2 ⟨a,ha,fun j hj=>by rw [h0 j hj];exact hm.1 j⟩]
 rfl
theorem Num.cons {rest : Af} {a:Nat→Int} {K1 K2:Nat→Int} (h1:Num rest K1) (h2:Num (rest.map fun y=>qM y a) K2):Num (a :: rest) fun d=>K1 d - Gg (BN 8 0 a) K2 d:=fun n hn hl d=>by
 have ha:=hl a List.mem_cons_self
 have hr:∀ y∈rest,SupN n y:=fun y hy=>hl y (List.mem_cons_of_mem _ hy)
 have hq:∀ y∈rest.map (fun y=>qM y a),SupN n y:=fun y hy=>by
  obtain ⟨z,hz,rfl⟩:=List.mem_map.1 hy
  intro j hj
  have:=hr z hz j hj
  have:=ha j hj
  refine ⟨?_,fun hnj=>?_⟩
  ·show 0≤z j - min (z j) (a j)
   omega
  ·show z j - min (z j) (a j) = 0
   have:=(hr z hz j hj).2 hnj
   have:=(ha j hj).2 hnj
   omega
 have hdg:∀ (k i:Nat),i+k = 8→∀ m,i+m = n∨(n≤i∧m = 0)→BN k i a = BN m i a:=by
  intro k
  induction k with
  | zero =>
   intro i hi m hm
   obtain rfl:m = 0:=by omega
   rfl
  | succ k ih =>
   intro i hi m hm
   cases m with
   | zero =>
    have h0:=(ha i (by omega)).2 (by omega)
    show (a i).toNat+BN k (i+1) a = 0
    rw [h0,ih (i+1) (by omega) 0 (.inr ⟨by omega,rfl⟩)]
    rfl
   | succ m=>rw [BN,BN,ih (i+1) (by omega) m (by omega)]
 have hd:BN 8 0 a = BN n 0 a:=hdg 8 0 rfl n (.inl (by omega))
 have hdv : ∀ x, InV n 0 x → GD 8 0 a x = GD n 0 a x := fun x hx => bool_eq (OA.trans (Iff.trans ⟨fun h j _ hj => h j (by omega), fun h j hj => by
  by_cases hjn:j<n
  ·exact h j (Nat.zero_le j) (by omega)
  ·rw [(ha j hj).2 (by omega)]
   exact hx.1 j⟩ Fq.symm))
 let a':Nat→Int:=fun j=>if j<8 then a j else 0
 have ha':∀ j,0≤a' j:=fun j=>by
  show 0≤if j<8 then a j else 0
  split
  ·rename_i h;exact (ha j h).1
  ·omega
 have hdv':∀ x,GD n 0 a x = GD n 0 a' x:=fun x=>bool_eq (Fq.trans (Iff.trans ⟨fun h j h1 h2=>by show (if j<8 then a j else 0)≤x j;rw [if_pos (by omega)];exact h j h1 h2,fun h j h1 h2=>by have:(if j<8 then a j else 0)≤x j:=h j h1 h2;rwa [if_pos (by omega)] at this⟩ Fq.symm))
 have hdg':∀ (m i:Nat),i+m≤8→BN m i a = BN m i a':=by
  intro m
  induction m with
  | zero=>intro i _;rfl
  | succ m ih =>
   intro i hi
   rw [BN,BN,ih (i+1) (by omega)]
   congr 1
   show (a i).toNat = (if i<8 then a i else 0).toNat
   rw [if_pos (by omega)]
 rw [Rh,PH]
 show CD n K1 d - Gg (BN 8 0 a) (CD n K2) d = sM n 0 d (Gi (a :: rest))
 have hstd:sM n 0 d (Gi (a :: rest)) = sM n 0 d (fun x=>Gi rest x - bif GD n 0 a' x then Gi rest x else 0):=EB fun x hx=>by
  rw [← hdv',← hdv x hx]
  unfold Gi inB
  rw [List.any_cons]
  cases GD 8 0 a x <;> simp
 rw [hstd,TV,h1 n hn hr d,TX n 0 d a' (Gi rest) ha',hd,hdg' n 0 (by omega)]
 congr 1
 unfold Gg
 split
 ·rw [h2 n hn hq]
  refine EB fun u hu=>?_
  unfold Gi
  congr 1
  refine bool_eq (CR.trans (Iff.trans ?_ CR.symm))
  constructor
  ·intro ⟨b,hb,h⟩
   obtain ⟨z,hz,rfl⟩:=List.mem_map.1 hb
   refine ⟨z,hz,fun j hj=>?_⟩
   have h3:z j - min (z j) (a j)≤u j:=h j hj
   have h4:=ha j hj
   show z j≤if 0≤j∧j<0+n then u j+(if j<8 then a j else 0) else u j
   rw [if_pos hj]
   split
   ·omega
   ·have := (hr z hz j hj).2 (by omega)
    have:=hu.1 j
    omega
  ·intro ⟨z,hz,h⟩
   refine ⟨_,List.mem_map_of_mem hz,fun j hj=>?_⟩
   have h3:z j≤if 0≤j∧j<0+n then u j+(if j<8 then a j else 0) else u j:=h j hj
   have h4:=ha j hj
   have h5:=hu.1 j
   show z j - min (z j) (a j)≤u j
   rw [if_pos hj] at h3
   split at h3 <;> omega
 ·rfl
theorem Num.inj {l : Af} {K K':Nat→Int} (h:Num l K) (h':Num l K') (hl:∀ a∈l,SupN 8 a):K = K':=Jq (n:=8) (by
 funext d
 rw [h 8 (Nat.le_refl 8) hl d,h' 8 (Nat.le_refl 8) hl d])
def SameM : Af→Af→Prop
 | [],[]=>True
 | a :: l,b :: l'=>Eqv a b∧SameM l l'
 | _,_=>False
theorem SameM.refl : ∀ l:Af,SameM l l
 | []=>trivial
 | a :: l=>⟨Eqv.refl a,SameM.refl l⟩
theorem SameM.length : ∀ {l l':Af},SameM l l'→l.length = l'.length
 | [],[],_=>rfl
 | _ :: _,_ :: _,h=>congrArg Nat.succ (SameM.length h.2)
 | [],_ :: _,h=>h.elim
 | _ :: _,[],h=>h.elim
def Vt (l : Af):Prop:=l.Pairwise fun a b=>0<lx a b
def MemE (x : Nat→Int) (l:Af):Prop:=∃ a∈l,Eqv a x
theorem ID : ∀ {l l':Af},Vt l→Vt l'→(∀ x,MemE x l↔MemE x l')→SameM l l'
 | [],[],_,_,_=>trivial
 | [],b :: l',_,_,h=>by
  obtain ⟨a,ha,_⟩:=(h b).2 ⟨b,List.mem_cons_self,Eqv.refl b⟩
  cases ha
 | a :: l,[],_,_,h=>by
  obtain ⟨b,hb,_⟩:=(h a).1 ⟨a,List.mem_cons_self,Eqv.refl a⟩
  cases hb
 | a :: l,b :: l',h1,h2,h=>by
  obtain ⟨p1,p2⟩:=List.pairwise_cons.1 h1
  obtain ⟨q1,q2⟩:=List.pairwise_cons.1 h2
  have hab:Eqv a b:=by
   obtain ⟨c,hc,ec⟩:=(h a).1 ⟨a,List.mem_cons_self,Eqv.refl a⟩
   obtain ⟨e,he,ee⟩:=(h b).2 ⟨b,List.mem_cons_self,Eqv.refl b⟩
   rcases List.mem_cons.1 hc with rfl | hc
   ·exact ec.symm
   ·rcases List.mem_cons.1 he with rfl | he
    ·exact ee
    ·have g1:=q1 c hc
     have g2:=p1 e he
     rw [FI (Eqv.refl b) ec] at g1
     rw [FI (Eqv.refl a) ee,Es] at g2
     omega
  refine ⟨hab,ID p2 q2 fun x=>⟨fun ⟨c,hc,ec⟩=>?_,fun ⟨c,hc,ec⟩=>?_⟩⟩
  ·obtain ⟨e,he,ee⟩:=(h x).1 ⟨c,List.mem_cons_of_mem _ hc,ec⟩
   rcases List.mem_cons.1 he with rfl | he
   ·have:=p1 c hc
    rw [FI hab (ec.trans ee.symm),ML] at this
    omega
   ·exact ⟨e,he,ee⟩
  ·obtain ⟨e,he,ee⟩:=(h x).2 ⟨c,List.mem_cons_of_mem _ hc,ec⟩
   rcases List.mem_cons.1 he with rfl | he
   ·have:=q1 c hc
    rw [FI hab.symm (ec.trans ee.symm),ML] at this
    omega
   ·exact ⟨e,he,ee⟩
def Dv (a x:Nat→Int):Prop:=∀ j,j<8→a j≤x j
theorem Dv.refl (a : Nat→Int):Dv a a:=fun _ _=>Int.le_refl _
theorem Dv.trans {a b c:Nat→Int} (h:Dv a b) (k:Dv b c):Dv a c:=fun j hj=>Int.le_trans (h j hj) (k j hj)
theorem Eqv.dv {a b:Nat→Int} (h:Eqv a b):Dv a b:=fun j hj=>Int.le_of_eq (h j hj)
def Zx (l : Af) (x:Nat→Int):Prop:=MemE x l∧∀ y∈l,Dv y x→Eqv y x
def IsMin (l R:Af):Prop:=Vt R∧∀ x,MemE x R↔Zx l x
theorem IsMin.same {l R R':Af} (h:IsMin l R) (h':IsMin l R'):SameM R R':=ID h.1 h'.1 fun x=>(h.2 x).trans (h'.2 x).symm
def Yy (a : Nat→Int):Nat:=BN 8 0 a
theorem KB : ∀ {k i:Nat} {a b:Nat→Int},(∀ j,i≤j→j<i+k→a j≤b j)→BN k i a≤BN k i b
 | 0,_,_,_,_=>Nat.le_refl 0
 | k+1,i,a,b,h=>by
  have h1:=h i (Nat.le_refl i) (by omega)
  have h2:=KB (k:=k) (i:=i+1) (a:=a) (b:=b) fun j h1 h2=>h j (by omega) (by omega)
  rw [BN,BN]
  omega
theorem UY : ∀ {k i:Nat} {a b:Nat→Int},(∀ j,i≤j→j<i+k→0≤a j∧a j≤b j)→BN k i a = BN k i b→∀ j,i≤j→j<i+k→a j = b j
 | 0,i,_,_,_,_,j,h1,h2=>by omega
 | k+1,i,a,b,h,he,j,h1,h2=>by
  have g1:=h i (Nat.le_refl i) (by omega)
  have g2:=KB (k:=k) (i:=i+1) (a:=a) (b:=b) fun j h1 h2=>(h j (by omega) (by omega)).2
  rw [BN,BN] at he
  by_cases e:j = i
  ·subst e
   omega
  ·exact UY (k:=k) (i:=i+1) (fun j h1 h2=>h j (by omega) (by omega)) (by omega) j (by omega) (by omega)
theorem GP {l : Af} (hl:∀ a∈l,∀ j,j<8→0≤a j):∀ (n:Nat) (x:Nat→Int),x∈l→Yy x≤n→∃ y,Zx l y∧Dv y x
 | n,x,hx,hn=>by
  by_cases h:∀ y∈l,Dv y x→Eqv y x
  ·exact ⟨x,⟨⟨x,hx,Eqv.refl x⟩,h⟩,Dv.refl x⟩
  ·obtain ⟨y,h⟩:=Classical.not_forall.1 h
   obtain ⟨hy,h⟩:=Classical.not_imp.1 h
   obtain ⟨hd,hne⟩:=Classical.not_imp.1 h
   have h1:Yy y≤Yy x:=KB fun j _ h2=>hd j (by omega)
   have h2:Yy y ≠ Yy x:=fun e=>hne fun j hj=>UY (k:=8) (i:=0) (fun j _ h2=>⟨hl y hy j (by omega),hd j (by omega)⟩) e j (Nat.zero_le j) (by omega)
   cases n with
   | zero=>omega
   | succ n =>
    obtain ⟨z,h3,h4⟩:=GP hl n y hy (by omega)
    exact ⟨z,h3,h4.trans hd⟩
theorem IsMin.inB {l R:Af} (h:IsMin l R) (hl:∀ a∈l,∀ j,j<8→0≤a j) (x:Nat→Int):Go.Proofs.YtialdhnijjnpaaaGreat.inB R x = Go.Proofs.YtialdhnijjnpaaaGreat.inB l x:=bool_eq (CR.trans (Iff.trans ⟨fun ⟨a,ha,hd⟩=>by
  obtain ⟨⟨b,hb,e⟩,_⟩:=(h.2 a).1 ⟨a,ha,Eqv.refl a⟩
  exact ⟨b,hb,e.dv.trans hd⟩,fun ⟨a,ha,hd⟩=>by
  obtain ⟨y,hy,hyd⟩:=GP hl (Yy a) a ha (Nat.le_refl _)
  obtain ⟨b,hb,e⟩:=(h.2 y).2 hy
  exact ⟨b,hb,e.dv.trans (hyd.trans hd)⟩⟩ CR.symm))
theorem IsMin.sup {l R:Af} (h:IsMin l R) {n:Nat} (hl:∀ a∈l,SupN n a):∀ a∈R,SupN n a:=fun a ha=>by
 obtain ⟨⟨b,hb,e⟩,_⟩:=(h.2 a).1 ⟨a,ha,Eqv.refl a⟩
 intro j hj
 rw [← e j hj]
 exact hl b hb j hj
def A1j (l : Af):Prop:=∀ a∈l,∀ b∈l,Dv a b→Eqv a b
theorem IsMin.anti {l R:Af} (h:IsMin l R):A1j R:=fun a ha b hb hd=>by
 obtain ⟨⟨a',ha',ea⟩,_⟩:=(h.2 a).1 ⟨a,ha,Eqv.refl a⟩
 have:=((h.2 b).1 ⟨b,hb,Eqv.refl b⟩).2 a' ha' (ea.dv.trans hd)
 exact ea.symm.trans this
def Eo : Af→Af→Af
 | R,[]=>R
 | R,m :: l=>if inB R m = true then Eo R l else Eo (R ++ [m]) l
theorem Og {a b:Nat→Int}:∀ (n i:Nat),(∀ j,i≤j→j<i+n→a j≤b j)→Ek a b i n≤0
 | 0,_,_=>Int.le_refl 0
 | n+1,i,h=>by
  have h1:=h i (Nat.le_refl i) (by omega)
  rw [Ek]
  split
  ·exact Og n (i+1) fun j h1 h2=>h j (by omega) (by omega)
  ·split <;> omega
theorem A06 {a b:Nat→Int} (h:Dv a b):lx a b≤0:=by
 show EV [] a b≤0
 simp only [EV,EP,if_pos]
 exact Og 8 0 fun j _ hj=>h j (by omega)
theorem EX {x : Nat→Int} {l l':Af}:MemE x (l ++ l')↔MemE x l∨MemE x l':=⟨fun ⟨a,ha,e⟩=>(List.mem_append.1 ha).imp (fun h=>⟨a,h,e⟩) fun h=>⟨a,h,e⟩,fun h=>h.elim (fun ⟨a,ha,e⟩=>⟨a,List.mem_append_left _ ha,e⟩) fun ⟨a,ha,e⟩=>⟨a,List.mem_append_right _ ha,e⟩⟩
theorem Ie {x m:Nat→Int}:MemE x [m]↔Eqv m x:=⟨fun ⟨a,ha,e⟩=>by rwa [List.mem_singleton.1 ha] at e,fun e=>⟨m,List.mem_singleton.2 rfl,e⟩⟩
structure Kept (done R:Af):Prop where
 asc:R.Pairwise fun a b=>lx a b<0
 mem:∀ x,MemE x R↔Zx done x
theorem Kept.step {done R:Af} {m:Nat→Int} (h:Kept done R) (hn:∀ a∈done,∀ j,j<8→0≤a j) (hs:∀ a∈done,lx a m≤0):Kept (done ++ [m]) (if inB R m = true then R else R ++ [m]):=by
 have back:∀ x,MemE x done→Dv m x→Eqv m x:=fun x ⟨a,ha,e⟩ hd=>by
  have h1:=hs a ha
  rw [FI e (Eqv.refl m)] at h1
  have h2:=A06 hd
  rw [Es] at h2
  exact (Fp.1 (by omega:lx x m = 0)).symm
 split
 ·rename_i hin
  obtain ⟨r,hr,hd⟩:=CR.1 hin
  obtain ⟨⟨r',hr',er⟩,_⟩:=(h.mem r).1 ⟨r,hr,Eqv.refl r⟩
  have hd':Dv r' m:=er.dv.trans hd
  refine ⟨h.asc,fun x=>(h.mem x).trans ⟨fun ⟨h1,h2⟩=>⟨EX.2 (.inl h1),fun y hy hyd=>?_⟩,fun ⟨h1,h2⟩=>⟨?_,fun y hy=>h2 y (List.mem_append_left _ hy)⟩⟩⟩
  ·rcases List.mem_append.1 hy with hy | hy
   ·exact h2 y hy hyd
   ·rw [List.mem_singleton.1 hy] at hyd ⊢
    exact back x h1 hyd
  ·rcases EX.1 h1 with h1 | h1
   ·exact h1
   ·have e:=Ie.1 h1
    exact ⟨r',hr',h2 r' (List.mem_append_left _ hr') (hd'.trans e.dv)⟩
 ·rename_i hin
  have hno:∀ y∈done,¬ Dv y m:=fun y hy hd=>hin (by
   obtain ⟨z,hz,hzd⟩:=GP hn (Yy y) y hy (Nat.le_refl _)
   obtain ⟨b,hb,e⟩:=(h.mem z).2 hz
   exact CR.2 ⟨b,hb,e.dv.trans (hzd.trans hd)⟩)
  refine ⟨List.pairwise_append.2 ⟨h.asc,List.pairwise_singleton _ _,fun a ha b hb=>?_⟩,fun x=>?_⟩
  ·rw [List.mem_singleton.1 hb]
   obtain ⟨⟨a',ha',ea⟩,_⟩:=(h.mem a).1 ⟨a,ha,Eqv.refl a⟩
   have h1:=hs a' ha'
   rw [FI ea (Eqv.refl m)] at h1
   have h2:lx a m ≠ 0:=fun e=>hno a' ha' (ea.dv.trans (Fp.1 e).dv)
   omega
  ·rw [EX,h.mem x,Ie]
   refine ⟨fun h1=>?_,fun ⟨h1,h2⟩=>?_⟩
   ·rcases h1 with ⟨h1,h2⟩ | e
    ·refine ⟨EX.2 (.inl h1),fun y hy hyd=>?_⟩
     rcases List.mem_append.1 hy with hy | hy
     ·exact h2 y hy hyd
     ·rw [List.mem_singleton.1 hy] at hyd ⊢
      exact back x h1 hyd
    ·refine ⟨EX.2 (.inr (Ie.2 e)),fun y hy hyd=>?_⟩
     rcases List.mem_append.1 hy with hy | hy
     ·exact absurd (hyd.trans e.symm.dv) (hno y hy)
     ·rw [List.mem_singleton.1 hy]
      exact e
   ·rcases EX.1 h1 with h1 | h1
    ·exact .inl ⟨h1,fun y hy=>h2 y (List.mem_append_left _ hy)⟩
    ·exact .inr (Ie.1 h1)
theorem Om : ∀ {l done R:Af},Kept done R→(∀ a∈done ++ l,∀ j,j<8→0≤a j)→(done ++ l).Pairwise (fun a b=>lx a b≤0)→Kept (done ++ l) (Eo R l)
 | [],done,R,h,_,_=>by rw [List.append_nil];exact h
 | m :: l,done,R,h,hn,hs=>by
  have hst:=h.step (m:=m) (fun a ha=>hn a (List.mem_append_left _ ha)) fun a ha=>(List.pairwise_append.1 hs).2.2 a ha m List.mem_cons_self
  have e:done ++ m :: l = (done ++ [m]) ++ l:=by simp
  rw [e] at hn hs ⊢
  have:=Om (l:=l) hst hn hs
  rw [Eo]
  split at this <;> split <;> first | exact this | (rename_i h1 h2;exact absurd h2 h1) | (rename_i h1 h2;exact absurd h1 h2)
theorem Ol {l s:Af} (hp:∀ x,x∈s↔x∈l) (hn:∀ a∈l,∀ j,j<8→0≤a j) (hs:s.Pairwise fun a b=>lx a b≤0):IsMin l (Eo [] s).reverse:=by
 have hk:=Om (l:=s) (done:=[]) (R:=[]) ⟨List.Pairwise.nil,fun x=>⟨fun ⟨a,ha,_⟩=>(by cases ha),fun ⟨⟨a,ha,_⟩,_⟩=>(by cases ha)⟩⟩ (fun a ha=>hn a ((hp a).1 ha)) hs
 refine ⟨List.pairwise_reverse.2 (hk.asc.imp fun {a b} h=>by rw [Es];omega),fun x=>?_⟩
 have h1:MemE x (Eo [] s).reverse↔MemE x (Eo [] s):=⟨fun ⟨a,ha,e⟩=>⟨a,List.mem_reverse.1 ha,e⟩,fun ⟨a,ha,e⟩=>⟨a,List.mem_reverse.2 ha,e⟩⟩
 rw [h1,hk.mem x]
 exact ⟨fun ⟨⟨a,ha,e⟩,h2⟩=>⟨⟨a,(hp a).1 ha,e⟩,fun y hy=>h2 y ((hp y).2 hy)⟩,fun ⟨⟨a,ha,e⟩,h2⟩=>⟨⟨a,(hp a).2 ha,e⟩,fun y hy=>h2 y ((hp y).1 hy)⟩⟩
def HJ (f : Nat→Int):Nat→Nat
 | 0=>0
 | n+1=>if f n = 0 then HJ f n else n+1
theorem JK (f : Nat→Int):∀ n,HJ f n≤n
 | 0=>Nat.le_refl 0
 | n+1=>by
  rw [HJ]
  split
  ·exact Nat.le_succ_of_le (JK f n)
  ·exact Nat.le_refl _
theorem QL (f : Nat→Int):∀ n,HJ f n = 0∨f (HJ f n - 1) ≠ 0
 | 0=>.inl rfl
 | n+1=>by
  rw [HJ]
  split
  ·exact QL f n
  ·rename_i h
   exact .inr h
theorem JJ {f : Nat→Int}:∀ {n:Nat},(∀ i,n≤i→f i = 0)→∀ i,HJ f n≤i→f i = 0
 | 0,h,i,hi=>h i hi
 | n+1,h,i,hi=>by
  rw [HJ] at hi
  split at hi
  ·rename_i h0
   refine JJ (n:=n) (fun j hj=>?_) i hi
   by_cases e:j = n
   ·subst e;exact h0
   ·exact h j (by omega)
  ·exact h i hi
structure NumL (l : Af) (n:Nat) (f:Nat→Int):Prop where
 num:Num l f
 far:∀ i,n≤i→f i = 0
 last:n = 0∨f (n - 1) ≠ 0
theorem NumL.inj {l : Af} {n n':Nat} {f f':Nat→Int} (h:NumL l n f) (h':NumL l n' f') (hl:∀ a∈l,SupN 8 a):n = n'∧f = f':=by
 have e:=h.num.inj h'.num hl
 subst e
 refine ⟨?_,rfl⟩
 rcases Nat.lt_trichotomy n n' with hlt | hlt | hlt
 ·rcases h'.last with h0 | h0
  ·omega
  ·exact absurd (h.far (n' - 1) (by omega)) h0
 ·exact hlt
 ·rcases h.last with h0 | h0
  ·omega
  ·exact absurd (h'.far (n - 1) (by omega)) h0
theorem NumL.nil : NumL [] 1 fun d=>if d = 0 then 1 else 0:=⟨Num.nil,fun i hi=>if_neg (by omega),.inr (by decide)⟩
theorem NumL.one {l : Af} {a:Nat→Int} (ha:a∈l) (h0:∀ j,j<8→a j = 0):NumL l 0 fun _=>0:=⟨Num.one ha h0,fun _ _=>rfl,.inl rfl⟩
theorem NumL.whole {l : Af} {f:Nat→Int} (h:NumL l 0 f) (hl:∀ a∈l,SupN 8 a):∃ a∈l,∀ j,j<8→a j = 0:=by
 have e:f = fun _=>0:=funext fun i=>h.far i (Nat.zero_le i)
 have h1:=h.num 8 (Nat.le_refl 8) hl 0
 rw [e,JZ] at h1
 have h2:hN 8 0 l = Gi l fun _=>0:=by
  have hz:∀ e:Nat→Nat→Int,(fun j=>if j = 0 then ((0:Nat):Int) else if j = 1 then ((0:Nat):Int) else if j = 2 then ((0:Nat):Int) else if j = 3 then ((0:Nat):Int) else if j = 4 then ((0:Nat):Int) else if j = 5 then ((0:Nat):Int) else if j = 6 then ((0:Nat):Int) else if j = 7 then ((0:Nat):Int) else 0) = fun _=>0:=fun _=>by
   funext j
   simp
  unfold hN
  simp only [sM,BE,Nat.sub_zero,Int.zero_add,Nat.zero_sub,if_true]
  congr 1
  funext j
  simp
 rw [h2] at h1
 unfold Gi at h1
 cases hb:inB l (fun _=>0) with
 | false =>
  rw [hb] at h1
  exact absurd h1 (by decide)
 | true =>
  obtain ⟨a,ha,hd⟩:=CR.1 hb
  refine ⟨a,ha,fun j hj=>?_⟩
  have g1:=hd j hj
  have g2:=(hl a ha j hj).1
  omega
theorem NumL.cons {rest R:Af} {a:Nat→Int} {n1 n2:Nat} {f1 f2:Nat→Int} (h1:NumL rest n1 f1) (h2:NumL R n2 f2) (hR:IsMin (rest.map fun y=>qM y a) R) (hl:∀ y∈rest,SupN 8 y) (ha:SupN 8 a) (N:Nat) (hN:n1≤N) (hN2:BN 8 0 a+n2≤N∨n2 = 0):NumL (a :: rest) (HJ (fun d=>f1 d - Gg (BN 8 0 a) f2 d) N) fun d=>f1 d - Gg (BN 8 0 a) f2 d:=by
 have hq:∀ y∈rest.map (fun y=>qM y a),∀ j,j<8→0≤y j:=fun y hy j hj=>by
  obtain ⟨z,hz,rfl⟩:=List.mem_map.1 hy
  have g1:=(hl z hz j hj).1
  have g2:=(ha j hj).1
  show 0≤z j - min (z j) (a j)
  omega
 have hfar:∀ i,N≤i→f1 i - Gg (BN 8 0 a) f2 i = 0:=fun i hi=>by
  rw [h1.far i (by omega)]
  unfold Gg
  split
  ·rw [h2.far _ (by omega)];rfl
  ·rfl
 refine ⟨h1.num.cons (h2.num.ideal (fun x _=>(hR.inB hq x).symm) fun n hs y hy=>hR.sup hs y hy),JJ hfar,QL _ _⟩
theorem Ss {f1 f2:Nat→Int} {B1 B2:Int} (h1:∀ i,-B1≤f1 i∧f1 i≤B1) (h2:∀ i,-B2≤f2 i∧f2 i≤B2) (hB:0≤B2) (e i:Nat):-(B1+B2)≤f1 i - Gg e f2 i∧f1 i - Gg e f2 i≤B1+B2:=by
 have g1:=h1 i
 unfold Gg
 split
 ·have g2:=h2 (i - e)
  omega
 ·omega
def rM : Nat→Nat→Nat→Af
 | 0,_,d=>if d = 0 then [fun _=>0] else []
 | k+1,i,d=>(List.range (d+1)).flatMap fun e=>(rM k (i+1) e).map fun m j=>if j = i then ((d - e:Nat):Int) else m j
def Pn (f : (Nat→Int)→Int):Af→Int
 | []=>0
 | m :: l=>f m+Pn f l
theorem Rp (f : (Nat→Int)→Int):∀ l l':Af,Pn f (l ++ l') = Pn f l+Pn f l'
 | [],l'=>(Int.zero_add _).symm
 | m :: l,l'=>by rw [List.cons_append,Pn,Pn,Rp f l l'];omega
theorem Ro (f : (Nat→Int)→Int) (g:(Nat→Int)→Nat→Int):∀ l:Af,Pn f (l.map g) = Pn (fun m=>f (g m)) l
 | []=>rfl
 | m :: l=>by rw [List.map_cons,Pn,Pn,Ro f g l]
theorem Od (f : (Nat→Int)→Int) (g:Nat→Af):∀ n,Pn f ((List.range n).flatMap g) = BE n fun e=>Pn f (g e)
 | 0=>rfl
 | n+1=>by rw [List.range_succ,List.flatMap_append,Rp,Od f g n,BE];simp
theorem UK : ∀ (k i d:Nat) (f:(Nat→Int)→Int),Pn f (rM k i d) = sM k i d f
 | 0,i,d,f=>by
  unfold rM sM
  split
  ·exact Int.add_zero _
  ·rfl
 | k+1,i,d,f=>by
  rw [rM,Od]
  show _ = BE (d+1) fun e=>sM k (i+1) (d - e) fun m=>f fun j=>if j = i then (e:Int) else m j
  rw [← HO]
  refine BT fun e he=>?_
  rw [Ro,UK k (i+1) (d - e),show d - (d - e) = e by omega]
theorem Kn (n d:Nat) (l:Af):Pn (Gi l) (rM n 0 d) = hN n d l:=UK n 0 d (Gi l)
theorem YF (f : Nat→Int):pS f 0 = f 0:=by
 show BE 1 f = f 0
 rw [IC]
 show f 0+0 = f 0
 omega
theorem Ib (f : Nat→Int) (d:Nat):pS f (d+1) = pS f d+f (d+1):=rfl
def kS (f : Nat→Int) (i t:Nat):Int:=if t≤i then pS f t else f t
theorem Rv (f : Nat→Int):kS f 0 = f:=by
 funext t
 unfold kS
 split
 ·rename_i h
  obtain rfl:t = 0:=by omega
  exact YF f
 ·rfl
theorem Rx (f : Nat→Int) (i:Nat):kS f i i = pS f i:=if_pos (Nat.le_refl i)
theorem MN (f : Nat→Int) (i:Nat):kS f i (i+1) = f (i+1):=if_neg (by omega)
theorem Rw (f : Nat→Int) (i:Nat):(fun j=>if j = i+1 then kS f i (i+1)+kS f i i else kS f i j) = kS f (i+1):=by
 funext t
 by_cases h:t = i+1
 ·subst h
  rw [if_pos rfl,MN,Rx,Rx,Ib]
  omega
 ·rw [if_neg h,kS,kS]
  by_cases h2:t≤i
  ·rw [if_pos h2,if_pos (by omega)]
  ·rw [if_neg h2,if_neg (by omega)]
def Bnd (f : Nat→Int) (Dg:Nat) (B:Int):Prop:=∀ t,t≤Dg→-B≤f t∧f t≤B
theorem Bnd.pos {f : Nat→Int} {Dg:Nat} {B:Int} (h:Bnd f Dg B):0≤B:=by
 have:=h 0 (Nat.zero_le Dg)
 omega
theorem Bnd.pS {f : Nat→Int} {Dg:Nat} {B:Int} (h:Bnd f Dg B):∀ t,t≤Dg→-(B*(t+1))≤pS f t∧pS f t≤B*(t+1)
 | 0,ht=>by
  rw [YF]
  have:=h 0 ht
  simp only [Int.natCast_zero,Int.zero_add,Int.mul_one]
  exact this
 | t+1,ht=>by
  have h1:=h.pS t (by omega)
  have h2:=h (t+1) ht
  rw [Ib]
  have:B*(((t+1:Nat):Int)+1) = B*((t:Int)+1)+B:=by
   rw [Int.natCast_succ,Int.mul_add B ((t:Int)+1) 1,Int.mul_one]
  rw [this]
  omega
theorem Bnd.le {f : Nat→Int} {Dg:Nat} {B C:Int} (h:Bnd f Dg B) (hC:B≤C):Bnd f Dg C:=fun t ht=>by
 have:=h t ht
 omega
theorem Bnd.sum {f : Nat→Int} {Dg:Nat} {B:Int} (h:Bnd f Dg B):Bnd (Go.Proofs.YtialdhnijjnpaaaGreat.pS f) Dg (B*(Dg+1)):=fun t ht=>by
 have h1:=h.pS t ht
 have h2:B*((t:Int)+1)≤B*((Dg:Int)+1):=Int.mul_le_mul_of_nonneg_left (by omega) h.pos
 omega
theorem Bnd.sumn {f : Nat→Int} {Dg:Nat} {B:Int} (h:Bnd f Dg B):∀ n,Bnd (CD n f) Dg (B*((Dg:Int)+1) ^ n)
 | 0=>by rw [Int.pow_zero,Int.mul_one];exact h
 | n+1=>by
  have:=(h.sumn n).sum
  rw [Int.pow_succ,← Int.mul_assoc]
  exact this
theorem Bnd.kS {f : Nat→Int} {Dg:Nat} {B:Int} (h:Bnd f Dg B) (i:Nat):Bnd (Go.Proofs.YtialdhnijjnpaaaGreat.kS f i) Dg (B*(Dg+1)):=fun t ht=>by
 unfold Go.Proofs.YtialdhnijjnpaaaGreat.kS
 split
 ·exact h.sum t ht
 ·have h1:=h t ht
  have h2:B*1≤B*((Dg:Int)+1):=Int.mul_le_mul_of_nonneg_left (by omega) h.pos
  omega
def cN (N : Nat) (f:Nat→Int):Nat→Nat × (Nat→Int)
 | 0=>(N,f)
 | j+1=>(HJ (pS (cN N f j).2) (cN N f j).1,pS (cN N f j).2)
theorem PV (N : Nat) (f:Nat→Int):∀ j,(cN N f j).2 = CD j f
 | 0=>rfl
 | j+1=>by
  show pS (cN N f j).2 = _
  rw [PV N f j]
  rfl
theorem Vi (N : Nat) (f:Nat→Int):∀ j,(cN N f j).1≤N
 | 0=>Nat.le_refl N
 | j+1=>Nat.le_trans (JK _ _) (Vi N f j)
theorem Gy (m : Nat) (f:Nat→Int):∀ n,CD (n+m) f = CD n (CD m f)
 | 0=>by rw [Nat.zero_add];rfl
 | n+1=>by
  rw [show n+1+m = (n+m)+1 by omega]
  show pS (CD (n+m) f) = pS (CD n (CD m f))
  rw [Gy m f n]
theorem JN (f g:Nat→Int):∀ n,BE n (fun k=>f k+g k) = BE n f+BE n g
 | 0=>rfl
 | n+1=>by rw [BE,BE,BE,JN f g n];omega
theorem Ka (f g:Nat→Int):∀ n,CD n (fun d=>f d+g d) = fun d=>CD n f d+CD n g d
 | 0=>rfl
 | n+1=>by
  show pS (CD n _) = _
  rw [Ka f g n]
  funext d
  exact JN _ _ (d+1)
def dZ (f : Nat→Int) (d:Nat):Int:=f d - (if d = 0 then 0 else f (d - 1))
theorem Ya (f : Nat→Int):pS (dZ f) = f:=by
 funext d
 induction d with
 | zero=>rw [YF,dZ,if_pos rfl,Int.sub_zero]
 | succ d ih=>rw [Ib,ih,dZ,if_neg (by omega),Nat.add_sub_cancel];omega
def ZS : Nat→(Nat→Int)→Nat→Int
 | 0,f=>f
 | n+1,f=>dZ (ZS n f)
theorem MA (f : Nat→Int):∀ n,CD n (ZS n f) = f
 | 0=>rfl
 | n+1=>by
  rw [Gy 1]
  show CD n (pS (dZ (ZS n f))) = f
  rw [Ya,MA f n]
def FS (p : Nat→Int) (B:Nat) (c:Int):Prop:=(∀ i,B≤i→p i = 0)∧BE B p = c
theorem FS.more {p : Nat→Int} {B B':Nat} {c:Int} (h:FS p B c) (hB:B≤B'):FS p B' c:=by
 obtain ⟨r,rfl⟩:∃ r,B' = B+r:=⟨B' - B,by omega⟩
 refine ⟨fun i hi=>h.1 i (by omega),?_⟩
 rw [Dj,h.2,CH fun k _=>h.1 _ (by omega),Int.add_zero]
theorem FS.add {p q:Nat→Int} {B B':Nat} {c c':Int} (h:FS p B c) (h':FS q B' c'):FS (fun d=>p d+q d) (max B B') (c+c'):=by
 have h1:=h.more (B':=max B B') (by omega)
 have h2:=h'.more (B':=max B B') (by omega)
 refine ⟨fun i hi=>?_,by rw [JN,h1.2,h2.2]⟩
 show p i+q i = 0
 rw [h1.1 i hi,h2.1 i hi]
 rfl
theorem FS.dz {p : Nat→Int} {B:Nat} {c:Int} (h:FS p B c):FS (dZ p) (B+1) 0:=by
 refine ⟨fun i hi=>?_,?_⟩
 ·rw [dZ, h.1 i (by omega), if_neg (by omega), h.1 (i - 1) (by omega)]
  rfl
 ·show pS (dZ p) B = 0
  rw [Ya,h.1 B (Nat.le_refl B)]
theorem FS.dzn {p : Nat→Int} {B:Nat} {c:Int} (h:FS p B c):∀ r,FS (ZS r p) (B+r) (if r = 0 then c else 0)
 | 0=>by rw [if_pos rfl];exact h
 | r+1=>by
  rw [if_neg (by omega)]
  exact (h.dzn r).dz
theorem FS.sh {p : Nat→Int} {B:Nat} {c:Int} (h:FS p B c) (e:Nat):FS (Gg e p) (e+B) c:=by
 refine ⟨fun i hi=>?_,?_⟩
 ·unfold Gg
  split
  ·exact h.1 _ (by omega)
  ·rfl
 ·rw [Dj, CH (f := Gg e p) fun k hk => if_neg (by omega), Int.zero_add, ← h.2]
  exact BT fun k _=>by rw [Gg,if_pos (by omega),show e+k - e = k by omega]
def Ser (F : Nat→Int) (D c:Int):Prop:=(D = -1∧c = 0∧F = fun _=>0)∨∃ (n:Nat) (p:Nat→Int) (B:Nat),D = (n:Int)∧FS p B c∧0<c∧F = CD n p
theorem Ser.zero : Ser (fun _=>0) (-1) 0:=.inl ⟨rfl,rfl,rfl⟩
theorem Ser.ge {F : Nat→Int} {D c:Int} (h:Ser F D c):-1≤D∧0≤c:=by
 rcases h with ⟨h,h2,_⟩ | ⟨n,_,_,h,_,h2,_⟩ <;> omega
theorem Ser.add_eq {F G:Nat→Int} {D c c':Int} (h:Ser F D c) (h':Ser G D c'):Ser (fun d=>F d+G d) D (c+c'):=by
 rcases h with ⟨h1,h2,h3⟩ | ⟨n,p,B,h1,h2,h3,h4⟩
 ·rcases h' with ⟨g1,g2,g3⟩ | ⟨m,q,B',g1,g2,g3,g4⟩
  ·exact .inl ⟨h1,by omega,by rw [h3,g3];rfl⟩
  ·omega
 ·rcases h' with ⟨g1,g2,g3⟩ | ⟨m,q,B',g1,g2,g3,g4⟩
  ·omega
  ·obtain rfl : n = m := by omega
   exact .inr ⟨n,_,_,h1,h2.add g2,by omega,by rw [Ka,h4,g4]⟩
theorem Ser.add_lt {F G:Nat→Int} {D D' c c':Int} (hD:D<D') (h:Ser F D c) (h':Ser G D' c'):Ser (fun d=>F d+G d) D' c':=by
 rcases h with ⟨h1,h2,h3⟩ | ⟨n,p,B,h1,h2,h3,h4⟩
 ·have e:(fun d=>F d+G d) = G:=by
   funext d
   rw [h3]
   exact Int.zero_add _
  rw [e]
  exact h'
 ·rcases h' with ⟨g1,g2,g3⟩ | ⟨m,q,B',g1,g2,g3,g4⟩
  ·omega
  ·obtain ⟨r, rfl⟩ : ∃ r, m = n + (r + 1) := ⟨m - n - 1, by omega⟩
   have hf:=h2.dzn (r+1)
   rw [if_neg (by omega)] at hf
   have hs:=hf.add g2
   rw [Int.zero_add] at hs
   refine .inr ⟨n+(r+1),_,_,g1,hs,g3,?_⟩
   rw [Ka,h4,g4,Gy (r+1) (ZS (r+1) p) n,MA]
theorem Ser.add {F G:Nat→Int} {D D' c c':Int} (h:Ser F D c) (h':Ser G D' c'):∃ c2,Ser (fun d=>F d+G d) (max D D') c2:=by
 rcases Int.lt_trichotomy D D' with hlt | rfl | hlt
 ·rw [show max D D' = D' by omega]
  exact ⟨c',h.add_lt hlt h'⟩
 ·rw [show max D D = D by omega]
  exact ⟨_,h.add_eq h'⟩
 ·rw [show max D D' = D by omega]
  have:=h'.add_lt hlt h
  rw [show (fun d=>G d+F d) = fun d=>F d+G d by funext d;exact Int.add_comm _ _] at this
  exact ⟨c,this⟩
theorem TU (e : Nat):Gg e (fun _=>0) = fun _=>0:=by
 funext d
 unfold Gg
 split <;> rfl
theorem Ser.sh {F : Nat→Int} {D c:Int} (h:Ser F D c) (e:Nat):Ser (Gg e F) D c:=by
 rcases h with ⟨h1,h2,h3⟩ | ⟨n,p,B,h1,h2,h3,h4⟩
 ·exact .inl ⟨h1,h2,by rw [h3,TU]⟩
 ·exact .inr ⟨n,Gg e p,e+B,h1,h2.sh e,h3,by rw [PH,h4]⟩
theorem Ser.ps {F : Nat→Int} {D c:Int} (h:Ser F D c):Ser (pS F) (if D = -1 then -1 else D+1) c:=by
 rcases h with ⟨h1,h2,h3⟩ | ⟨n,p,B,h1,h2,h3,h4⟩
 ·rw [if_pos h1]
  exact .inl ⟨rfl,h2,by rw [h3,Ri]⟩
 ·rw [if_neg (by omega)]
  exact .inr ⟨n+1,p,B,by omega,h2,h3,by rw [h4];rfl⟩
theorem Ser.sum {G : Nat→Nat→Int} (D:Nat→Int) (h:∀ e,∃ c,Ser (G e) (D e) c):∀ m,∃ M c,Ser (fun d=>BE m fun e=>Gg e (G e) d) M c∧(∀ e,e<m→D e≤M)∧(M = -1∨∃ e,e<m∧M = D e)
 | 0=>⟨-1,0,Ser.zero,fun e he=>absurd he (Nat.not_lt_zero e),.inl rfl⟩
 | m+1=>by
  obtain ⟨M,c,h1,h2,h3⟩:=Ser.sum D h m
  obtain ⟨c',h4⟩:=h m
  obtain ⟨c2,h5⟩:=h1.add (h4.sh m)
  refine ⟨max M (D m),c2,h5,fun e he=>?_,?_⟩
  ·by_cases e1:e = m
   ·subst e1;omega
   ·have := h2 e (by omega)
    omega
  ·by_cases hm:D m≤M
   ·rw [show max M (D m) = M by omega]
    exact h3.imp id fun ⟨e,he,hM⟩=>⟨e,by omega,hM⟩
   ·exact .inr ⟨m,by omega,by omega⟩
def Pw (k i:Nat) (l:Af) (x:Nat→Int):Int:=bif l.any (fun a=>GD k i a x) then 0 else 1
def FR (k i:Nat) (l:Af) (d:Nat):Int:=sM k i d (Pw k i l)
def Hv (i : Nat) (l:Af) (e:Nat):Af:=l.filter fun a=>decide (a i≤(e:Int))
theorem Oe {i : Nat} {l:Af} {e E:Nat} (h:∀ a∈l,a i≤(E:Int)) (he:E≤e):Hv i l e = l:=by
 unfold Hv
 rw [List.filter_eq_self]
 exact fun a ha=>decide_eq_true (by have:=h a ha;omega)
theorem Sm (k i:Nat) (l:Af) (e:Nat) (m:Nat→Int):Pw (k+1) i l (fun j=>if j = i then (e:Int) else m j) = Pw k (i+1) (Hv i l e) m:=by
 unfold Pw Hv
 congr 1
 rw [List.any_filter]
 congr 1
 funext a
 rw [GD,if_pos rfl,IL (y:=m) fun j hj=>if_neg (by omega)]
theorem XI (k i:Nat) (l:Af) (E:Nat) (hE:∀ a∈l,a i≤(E:Int)):FR (k+1) i l = fun d=>BE E (fun e=>Gg e (FR k (i+1) (Hv i l e)) d)+Gg E (pS (FR k (i+1) l)) d:=by
 funext d
 have h1:FR (k+1) i l d = BE (d+1) fun e=>FR k (i+1) (Hv i l e) (d - e):=BT fun e _=>by
  unfold FR
  congr 1
  funext m
  exact Sm k i l e m
 rw [h1]
 by_cases hd:d<E
 ·rw [show Gg E (pS (FR k (i + 1) l)) d = 0 from if_neg (by omega), Int.add_zero]
  obtain ⟨r,hr⟩:∃ r,E = d+1+r:=⟨E - (d+1),by omega⟩
  have h2:BE E (fun e=>Gg e (FR k (i+1) (Hv i l e)) d) = BE (d+1) fun e=>Gg e (FR k (i+1) (Hv i l e)) d:=by
   rw [hr,Dj _ (d+1) r,CH (n:=r) (f:=fun q=>Gg (d+1+q) (FR k (i+1) (Hv i l (d+1+q))) d) fun q hq=>if_neg (by omega),Int.add_zero]
  rw [h2]
  exact BT fun e he=>(if_pos (by omega)).symm
 ·obtain ⟨r, hr⟩ : ∃ r, d = E + r := ⟨d - E, by omega⟩
  rw [hr,show E+r+1 = E+(r+1) by omega,Dj]
  congr 1
  ·exact BT fun e he=>(if_pos (by omega)).symm
  ·rw [Gg, if_pos (by omega), show E + r - E = r by omega]
   show _ = BE (r+1) (FR k (i+1) l)
   refine Eq.trans ?_ (HO (FR k (i+1) l) r)
   exact BT fun e _=>by
    show FR k (i+1) (Hv i l (E+e)) (E+r - (E+e)) = _
    rw [Oe hE (by omega),show E+r - (E+e) = r - e by omega]
def KS (k i:Nat) (l:Af) (S:Nat→Bool):Prop:=∀ a∈l,∃ j,i≤j∧j<i+k∧S j = false∧0<a j
def HN : Nat→Nat→(Nat→Bool)→Nat
 | 0,_,_=>0
 | k+1,i,S=>(if S i = true then 1 else 0)+HN k (i+1) S
theorem GM {S S':Nat→Bool}:∀ {k i:Nat},(∀ j,i≤j→j<i+k→S j = S' j)→HN k i S = HN k i S'
 | 0,_,_=>rfl
 | k+1,i,h=>by rw [HN,HN,h i (Nat.le_refl i) (by omega),GM fun j h1 h2=>h j (by omega) (by omega)]
def IsDim (k i:Nat) (l:Af) (D:Int):Prop:=(∀ S,KS k i l S→((HN k i S:Nat):Int)≤D)∧(D = -1∨∃ S,KS k i l S∧D = ((HN k i S:Nat):Int))
theorem IsDim.uniq {k i:Nat} {l:Af} {D D':Int} (h:IsDim k i l D) (h':IsDim k i l D') (hD:-1≤D) (hD':-1≤D'):D = D':=by
 have key:∀ {D D':Int},IsDim k i l D→IsDim k i l D'→-1≤D'→D≤D':=fun {D D'} h h' hD'=>by
  rcases h.2 with h2 | ⟨S,h2,h3⟩
  ·omega
  ·have:=h'.1 S h2
   omega
 exact Int.le_antisymm (key h h' hD') (key h' h hD)
theorem Oy (i : Nat):∀ l:Af,∃ E:Nat,∀ a∈l,a i≤(E:Int)
 | []=>⟨0,fun a ha=>by cases ha⟩
 | a :: l=>by
  obtain ⟨E,h⟩:=Oy i l
  refine ⟨max E (a i).toNat,fun b hb=>?_⟩
  rcases List.mem_cons.1 hb with rfl | hb
  ·omega
  ·have:=h b hb
   omega
theorem RT (i : Nat) (l:Af):FR 0 i l = fun d=>if d = 0 then Pw 0 i l (fun _=>0) else 0:=rfl
theorem QZ : ∀ (k i:Nat) (l:Af),(∀ a∈l,∀ j,0≤a j)→∃ D c,Ser (FR k i l) D c∧IsDim k i l D
 | 0,i,[],_=>by
  refine ⟨0,1,.inr ⟨0,FR 0 i [],1,rfl,⟨fun d hd=>if_neg (by omega),?_⟩,by omega,rfl⟩,fun S _=>Int.le_refl 0,.inr ⟨fun _=>true,⟨fun a ha=>(by cases ha),rfl⟩⟩⟩
  show (0:Int)+FR 0 i [] 0 = 1
  rw [RT]
  rfl
 | 0,i,a :: l,_=>by
  refine ⟨-1,0,.inl ⟨rfl,rfl,?_⟩,fun S hS=>?_,.inl rfl⟩
  ·funext d
   rw [RT]
   show (if d = 0 then (0:Int) else 0) = 0
   split <;> rfl
  ·obtain ⟨j,h1,h2,_⟩:=hS a List.mem_cons_self
   omega
 | k+1,i,l,hl=>by
  obtain ⟨E,hE⟩:=Oy i l
  have hsub:∀ e,∀ a∈Hv i l e,∀ j,0≤a j:=fun e a ha=>hl a (List.mem_filter.1 ha).1
  have ih:=fun e=>QZ k (i+1) (Hv i l e) (hsub e)
  let D:Nat→Int:=fun e=>(ih e).choose
  have hD:∀ e,∃ c,Ser (FR k (i+1) (Hv i l e)) (D e) c∧IsDim k (i+1) (Hv i l e) (D e):=fun e=>(ih e).choose_spec
  obtain ⟨M,c1,h1,h2,h3⟩:=Ser.sum D (fun e=>(hD e).imp fun c h=>h.1) E
  obtain ⟨c2,h4,h5⟩:=hD E
  have hge:=h4.ge
  rw [Oe hE (Nat.le_refl E)] at h4 h5
  obtain ⟨c3,h6⟩:=h1.add (h4.ps.sh E)
  rw [← XI k i l E hE] at h6
  refine ⟨_,c3,h6,fun S hS=>?_,?_⟩
  ·cases hSi:S i with
   | true =>
    have hI:KS k (i+1) l S:=fun a ha=>by
     obtain ⟨j,g1,g2,g3,g4⟩:=hS a ha
     refine ⟨j,?_,by omega,g3,g4⟩
     rcases Nat.eq_or_lt_of_le g1 with e | g
     ·subst e
      rw [hSi] at g3
      cases g3
     ·exact g
    have g:=h5.1 S hI
    rw [HN,if_pos hSi,if_neg (by omega)]
    omega
   | false =>
    have hI:KS k (i+1) (Hv i l 0) S:=fun a ha=>by
     obtain ⟨ha,hz⟩:=List.mem_filter.1 ha
     have hz:=of_decide_eq_true hz
     obtain ⟨j,g1,g2,g3,g4⟩:=hS a ha
     refine ⟨j,?_,by omega,g3,g4⟩
     rcases Nat.eq_or_lt_of_le g1 with e | g
     ·subst e
      omega
     ·exact g
    obtain ⟨c0,_,g0⟩:=hD 0
    have g:=g0.1 S hI
    rw [HN,hSi,if_neg (by decide),Nat.zero_add]
    by_cases hE0:E = 0
    ·subst hE0
     split <;> omega
    ·have := h2 0 (by omega)
     omega
  ·by_cases hM:(if D E = -1 then -1 else D E+1)≤M
   ·rw [show max M (if D E = -1 then -1 else D E + 1) = M by omega]
    rcases h3 with h3 | ⟨e,he,rfl⟩
    ·exact .inl h3
    ·obtain ⟨c0,_,g0⟩:=hD e
     rcases g0.2 with g | ⟨S,g1,g2⟩
     ·exact .inl g
     ·refine .inr ⟨fun j=>if j = i then false else S j,fun a ha=>?_,?_⟩
      ·by_cases hae:a i≤(e:Int)
       ·obtain ⟨j,q1,q2,q3,q4⟩:=g1 a (List.mem_filter.2 ⟨ha,decide_eq_true hae⟩)
        exact ⟨j,by omega,by omega,(if_neg (by omega)).trans q3,q4⟩
       ·exact ⟨i,Nat.le_refl i,by omega,if_pos rfl,by omega⟩
      ·rw [g2, HN, if_pos rfl, if_neg (by decide), Nat.zero_add]
       congr 1
       exact GM fun j q1 _=>(if_neg (by omega)).symm
   ·rw [show max M (if D E = -1 then -1 else D E + 1) = (if D E = -1 then -1 else D E + 1) by omega]
    by_cases hDE:D E = -1
    ·exact .inl (if_pos hDE)
    ·rw [if_neg hDE]
     rcases h5.2 with g | ⟨S,g1,g2⟩
     ·exact absurd g hDE
     ·refine .inr ⟨fun j=>if j = i then true else S j,fun a ha=>?_,?_⟩
      ·obtain ⟨j,q1,q2,q3,q4⟩:=g1 a ha
       exact ⟨j,by omega,by omega,(if_neg (by omega)).trans q3,q4⟩
      ·rw [g2, HN, if_pos rfl, if_pos rfl, GM (S := fun j => if j = i then true else S j) (S' := S) fun j q1 _ => if_neg (by omega)]
       omega
theorem Sp {K p:Nat→Int} {n m:Nat} (h:CD (m+n) K = CD m p):CD n K = p:=by
 rw [Gy] at h
 exact Jq h
theorem Vj {N : Nat} {f:Nat→Int} {r B:Nat} {c:Int} (far:∀ i,N≤i→f i = 0) (hf:FS (CD r f) B c):∀ j,j≤r→∀ i,(cN N f j).1≤i→CD j f i = 0
 | 0,_=>far
 | j+1,hj=>by
  have ih:=Vj far hf j (by omega)
  obtain ⟨q,rfl⟩:∃ q,r = q+(j+1):=⟨r - (j+1),by omega⟩
  have he:CD (j+1) f = ZS q (CD (q+(j+1)) f):=by
   refine Jq (n:=q) ?_
   rw [MA,Gy (j+1) f q]
  have hfin:=hf.dzn q
  rw [← he] at hfin
  have hconst:∀ i,(cN N f j).1≤i→∀ t,CD (j+1) f (i+t) = CD (j+1) f i:=fun i hi t=>by
   induction t with
   | zero=>rfl
   | succ t iht =>
    show pS (CD j f) (i+t+1) = _
    rw [Ib,ih (i+t+1) (by omega),Int.add_zero]
    exact iht
  have hz:∀ i,(cN N f j).1≤i→CD (j+1) f i = 0:=fun i hi=>by
   rw [← hconst i hi (B+q),hfin.1 _ (by omega)]
  intro i hi
  have e:(cN N f (j+1)).1 = HJ (CD (j+1) f) (cN N f j).1:=by
   show HJ (pS (cN N f j).2) _ = _
   rw [PV]
   rfl
  rw [e] at hi
  exact JJ hz i hi
theorem A07 {l : Af} {n:Nat} (hn:n≤8) (hl:∀ a∈l,SupN n a):(fun d=>hN n d l) = FR n 0 l:=by
 funext d
 refine EB fun x hx=>?_
 unfold Gi Pw inB
 congr 1
 refine bool_eq ?_
 rw [List.any_eq_true,List.any_eq_true]
 have key : ∀ a ∈ l, (GD 8 0 a x = true ↔ GD n 0 a x = true) := fun a ha => OA.trans (Iff.trans ⟨fun h j _ hj => h j (by omega), fun h j hj => by
  by_cases hjn:j<n
  ·exact h j (Nat.zero_le j) (by omega)
  ·rw [(hl a ha j hj).2 (by omega)]
   exact hx.1 j⟩ Fq.symm)
 exact ⟨fun ⟨a,ha,h⟩=>⟨a,ha,(key a ha).1 h⟩,fun ⟨a,ha,h⟩=>⟨a,ha,(key a ha).2 h⟩⟩
def dlt (d : Nat):Int:=if d = 0 then 1 else 0
end Go.Proofs.YtialdhnijjnpaaaGreat
