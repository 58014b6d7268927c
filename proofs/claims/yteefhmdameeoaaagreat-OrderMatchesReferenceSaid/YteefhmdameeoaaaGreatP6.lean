/-
  Comparisons only make memory and draw: what a sort asks of them.
  Appending any rows; slices.Clone of rows.
  slices.SortFunc of monomials by an order.
  slices.Compact of monomials.
  order.Sort.
-/
import Derived.Test.YteefhmdameeoaaaGreatPA
import Derived.Test.YteefhmdameeoaaaGreatShelf2
import Derived.WalkKit
import Derived.WalkSpells
import Derived.WalkLawsBesides
import Derived.BigQuiet
import Derived.Deep.QuietTactic
import Derived.Laws.AppendOwnNone
import Derived.Deep.RegionHeld3
import Derived.Deep.DeepCutAuto
import Derived.Deep.CutBlock
import Derived.Deep.LoopGhost
import Derived.ChangeKeysEq
import Derived.RegionTactic
import Derived.ChangeAlike
import Derived.Deep.Cut
import Derived.Deep.Upon
import Derived.Lib.SliceRun
import Derived.Shelf.SlSortCmp.NoneTotal
set_option linter.unusedSimpArgs false
set_option linter.unusedVariables false
namespace Go.Proofs.YteefhmdameeoaaaGreat
open Go.RowKit

/-- Memory has only grown, and no draw was taken back. -/
def Grew (w w' : World) : Prop := Ext w w' ∧ w.drawn ≤ w'.drawn
theorem Grew.refl (w : World) : Grew w w := ⟨Ext.refl w, Nat.le_refl _⟩
theorem Grew.alloc {a b : World} (h : Grew a b) (o : Obj) : Grew a (b.alloc o) := ⟨h.1.alloc o, h.2⟩
theorem Grew.drewN {a b : World} (h : Grew a b) (n : Nat) : Grew a (b.drewN n) := ⟨h.1.drewN n, Nat.le_trans h.2 (Nat.le_add_right _ _)⟩
theorem Grew.trans {a b c : World} (h : Grew a b) (k : Grew b c) : Grew a c := ⟨h.1.trans k.1, Nat.le_trans h.2 k.2⟩
theorem Grew.cell {a b : World} (h : Grew a b) {p : Addr} (hp : p.block < a.heap.size) : b.cell? p = a.cell? p := h.1.cell hp
theorem Grew.size {a b : World} (h : Grew a b) : a.heap.size ≤ b.heap.size := h.1.size
theorem Grew.grow {a b : World} (h : Grew a b) : ∃ q os, b = Sort.grow (a.drewN q) os := by
  obtain ⟨⟨h1, h2, h3, h4, h5⟩, h6⟩ := h
  refine ⟨b.drawn - a.drawn, b.heap.extract a.heap.size b.heap.size, ?_⟩
  have hh : b.heap = a.heap ++ b.heap.extract a.heap.size b.heap.size := by
    refine Array.ext_getElem? fun i => ?_
    rw [Array.getElem?_append]
    by_cases hi : i < a.heap.size
    · rw [if_pos hi]; exact h5 i hi
    · rw [if_neg hi, Array.getElem?_extract]
      by_cases hj : i < b.heap.size
      · rw [if_pos (by omega)]; congr 1; omega
      · rw [if_neg (by omega), Array.getElem?_eq_none (by omega)]
  cases a; cases b
  simp only [Sort.grow, World.drewN] at *
  subst h1; subst h2; subst h3
  rw [← hh]
  congr 1
  omega

set_option maxRecDepth 100000 in
set_option maxHeartbeats 800000 in
theorem mCmp_grew (a b : Nat → Int) (w : World) :
    Calls Tryz.prog 33 #[.agg #[.int .i64 (a 0), .int .i64 (a 1), .int .i64 (a 2), .int .i64 (a 3), .int .i64 (a 4), .int .i64 (a 5), .int .i64 (a 6), .int .i64 (a 7)], .agg #[.int .i64 (b 0), .int .i64 (b 1), .int .i64 (b 2), .int .i64 (b 3), .int .i64 (b 4), .int .i64 (b 5), .int .i64 (b 6), .int .i64 (b 7)]] w fun e w' => e = .returned (.int .i64 (lex8 a b)) ∧ Grew w w' := by
  have hq := fun W => run_eq_mono a b W
  cases he : eqB a b with
  | true =>
    rw [he] at hq
    go_enter Tryz.func33, Tryz.ntmps33
    go_wp2
    go_ret
    refine ⟨?_, ((Grew.refl _).alloc _).alloc _⟩
    rw [lex8, lexTo_eq 8 0 fun i _ h => eqB_true.1 he i (by omega)]
    rfl
  | false =>
    rw [he] at hq
    have hne : ¬ ∀ i, i < 8 → a i = b i := fun h => by rw [eqB_true.2 h] at he; cases he
    clear he
    replace hne := hide hne
    have hA : Hid (Blk ((w.alloc (.cells #[.int .i64 (a 0), .int .i64 (a 1), .int .i64 (a 2), .int .i64 (a 3), .int .i64 (a 4), .int .i64 (a 5), .int .i64 (a 6), .int .i64 (a 7)] 36)).alloc (.cells #[.int .i64 (b 0), .int .i64 (b 1), .int .i64 (b 2), .int .i64 (b 3), .int .i64 (b 4), .int .i64 (b 5), .int .i64 (b 6), .int .i64 (b 7)] 36)) w.heap.size 36 (c8 a)) := (Blk.new _ _ _).alloc _
    have hB : Hid (Blk ((w.alloc (.cells #[.int .i64 (a 0), .int .i64 (a 1), .int .i64 (a 2), .int .i64 (a 3), .int .i64 (a 4), .int .i64 (a 5), .int .i64 (a 6), .int .i64 (a 7)] 36)).alloc (.cells #[.int .i64 (b 0), .int .i64 (b 1), .int .i64 (b 2), .int .i64 (b 3), .int .i64 (b 4), .int .i64 (b 5), .int .i64 (b 6), .int .i64 (b 7)] 36)) (w.heap.size + 1) 36 (c8 b)) := Blk.new' _ _ (by simp)
    have hE : Hid (Grew w ((w.alloc (.cells #[.int .i64 (a 0), .int .i64 (a 1), .int .i64 (a 2), .int .i64 (a 3), .int .i64 (a 4), .int .i64 (a 5), .int .i64 (a 6), .int .i64 (a 7)] 36)).alloc (.cells #[.int .i64 (b 0), .int .i64 (b 1), .int .i64 (b 2), .int .i64 (b 3), .int .i64 (b 4), .int .i64 (b 5), .int .i64 (b 6), .int .i64 (b 7)] 36))) := ((Grew.refl _).alloc _).alloc _
    go_enter Tryz.func33, Tryz.ntmps33
    go_wp2
    generalize ((w.alloc (.cells #[.int .i64 (a 0), .int .i64 (a 1), .int .i64 (a 2), .int .i64 (a 3), .int .i64 (a 4), .int .i64 (a 5), .int .i64 (a 6), .int .i64 (a 7)] 36)).alloc (.cells #[.int .i64 (b 0), .int .i64 (b 1), .int .i64 (b 2), .int .i64 (b 3), .int .i64 (b 4), .int .i64 (b 5), .int .i64 (b 6), .int .i64 (b 7)] 36)) = w1 at *
    go_loopw [5] (fun i wr => ∃ k : Nat, k < 8 ∧ i = .int .i64 k ∧ Hid ((¬ ∀ i, k ≤ i → i < 8 → a i = b i) ∧ lex8 a b = lexTo a b k (8 - k) ∧ Blk wr w.heap.size 36 (c8 a) ∧ Blk wr (w.heap.size + 1) 36 (c8 b) ∧ Grew w wr)) (fun i _ => 8 - (intOf i).toNat)
    case atStart => exact ⟨0, by omega, rfl, fun h => hne.out fun i hi => h i (by omega) hi, rfl, hA.out, hB.out, hE.out⟩
    case round =>
      obtain ⟨k, hk, rfl, hR⟩ := hrel
      have xa := hR.out.2.2.1.at8 hk
      have xb := hR.out.2.2.2.1.at8 hk
      have hs : Hid (lexTo a b k (8 - k) = if a k = b k then lexTo a b (k + 1) (8 - (k + 1)) else if a k < b k then -1 else 1) := by
        rw [show 8 - k = 8 - (k + 1) + 1 by omega]; rfl
      have hn : Hid (a k = b k → k + 1 < 8 ∧ ¬ ∀ i, k + 1 ≤ i → i < 8 → a i = b i) := fun h => by
        have h1 : ¬ ∀ i, k + 1 ≤ i → i < 8 → a i = b i := fun h2 => hR.out.1 fun i h3 h4 => by
          by_cases e : i = k
          · rw [e]; exact h
          · exact h2 i (by omega) h4
        refine ⟨?_, h1⟩
        by_cases hk' : k + 1 < 8
        · exact hk'
        · exact absurd (fun i h3 h4 => by omega) h1
      generalize a k = x at *
      generalize b k = y at *
      by_cases hxy : x = y
      · have hn' := hn.out hxy
        have hs' := hs.out
        rw [if_pos hxy] at hs'
        replace hs' := hide (hR.out.2.1.trans hs')
        have hk1 := hn'.1
        replace hn' := hide hn'.2
        go_wp2
        go_quiet (fail)
        go_wp2
        exact ⟨⟨k + 1, hk1, by simp, hn'.out, hs'.out, hR.out.2.2.1, hR.out.2.2.2.1, hR.out.2.2.2.2.drewN _⟩, by simp [intOf]; omega⟩
      · have hs' := hs.out
        rw [if_neg hxy] at hs'
        replace hs' := hide (hR.out.2.1.trans hs')
        by_cases hlt : x < y
        · rw [if_pos hlt] at hs'
          go_wp2
          go_quiet (fail)
          go_wp2
          go_quiet (fail)
          go_wp2
          go_ret
          exact ⟨by rw [hs'.out]; rfl, (hR.out.2.2.2.2.drewN _).drewN _⟩
        · rw [if_neg hlt] at hs'
          go_wp2
          go_quiet (fail)
          go_wp2
          go_quiet (fail)
          go_wp2
          go_ret
          exact ⟨by rw [hs'.out]; rfl, (hR.out.2.2.2.2.drewN _).drewN _⟩

set_option maxRecDepth 100000 in
set_option maxHeartbeats 800000 in
theorem oCmp_grew (v : Value) (R : List (Nat → Int)) (a b : Nat → Int) (w : World) (h : RowsAt .i64 35 w v R) (hR : ∀ r ∈ R, In8 r (-1000) 1000) (ha : In8 a (-1000000) 1000000) (hb : In8 b (-1000000) 1000000) :
    Calls Tryz.prog 8 #[v, .agg #[.int .i64 (a 0), .int .i64 (a 1), .int .i64 (a 2), .int .i64 (a 3), .int .i64 (a 4), .int .i64 (a 5), .int .i64 (a 6), .int .i64 (a 7)], .agg #[.int .i64 (b 0), .int .i64 (b 1), .int .i64 (b 2), .int .i64 (b 3), .int .i64 (b 4), .int .i64 (b 5), .int .i64 (b 6), .int .i64 (b 7)]] w fun e w' => e = .returned (.int .i64 (oCmp R a b)) ∧ Grew w w' := by
  obtain ⟨A, c, rfl, hc, hm, hx⟩ := h.open_
  clear h
  replace hx := hide hx
  replace hR := hide hR
  replace ha := hide ha
  replace hb := hide hb
  have hq := fun W => run_eq_mono a b W
  cases he : eqB a b with
  | true =>
    rw [he] at hq
    go_enter Tryz.func8, Tryz.ntmps8
    go_wp2
    go_ret
    refine ⟨?_, ((Grew.refl _).alloc _).alloc _⟩
    rw [oCmp_eq (eqB_true.1 he)]
    rfl
  | false =>
    rw [he] at hq
    have hA : Hid (Blk ((w.alloc (.cells #[.int .i64 (a 0), .int .i64 (a 1), .int .i64 (a 2), .int .i64 (a 3), .int .i64 (a 4), .int .i64 (a 5), .int .i64 (a 6), .int .i64 (a 7)] 36)).alloc (.cells #[.int .i64 (b 0), .int .i64 (b 1), .int .i64 (b 2), .int .i64 (b 3), .int .i64 (b 4), .int .i64 (b 5), .int .i64 (b 6), .int .i64 (b 7)] 36)) w.heap.size 36 (c8 a)) := (Blk.new _ _ _).alloc _
    have hB : Hid (Blk ((w.alloc (.cells #[.int .i64 (a 0), .int .i64 (a 1), .int .i64 (a 2), .int .i64 (a 3), .int .i64 (a 4), .int .i64 (a 5), .int .i64 (a 6), .int .i64 (a 7)] 36)).alloc (.cells #[.int .i64 (b 0), .int .i64 (b 1), .int .i64 (b 2), .int .i64 (b 3), .int .i64 (b 4), .int .i64 (b 5), .int .i64 (b 6), .int .i64 (b 7)] 36)) (w.heap.size + 1) 36 (c8 b)) := Blk.new' _ _ (by simp)
    have hE : Hid (Grew w ((w.alloc (.cells #[.int .i64 (a 0), .int .i64 (a 1), .int .i64 (a 2), .int .i64 (a 3), .int .i64 (a 4), .int .i64 (a 5), .int .i64 (a 6), .int .i64 (a 7)] 36)).alloc (.cells #[.int .i64 (b 0), .int .i64 (b 1), .int .i64 (b 2), .int .i64 (b 3), .int .i64 (b 4), .int .i64 (b 5), .int .i64 (b 6), .int .i64 (b 7)] 36))) := ((Grew.refl _).alloc _).alloc _
    go_enter Tryz.func8, Tryz.ntmps8
    go_wp2
    generalize ((w.alloc (.cells #[.int .i64 (a 0), .int .i64 (a 1), .int .i64 (a 2), .int .i64 (a 3), .int .i64 (a 4), .int .i64 (a 5), .int .i64 (a 6), .int .i64 (a 7)] 36)).alloc (.cells #[.int .i64 (b 0), .int .i64 (b 1), .int .i64 (b 2), .int .i64 (b 3), .int .i64 (b 4), .int .i64 (b 5), .int .i64 (b 6), .int .i64 (b 7)] 36)) = w1 at *
    go_loopw [17] (fun i wr => ∃ k : Nat, k ≤ R.length ∧ i = .int .i64 k ∧ Hid (cmpRows R a b = cmpRows (R.drop k) a b ∧ Blk wr w.heap.size 36 (c8 a) ∧ Blk wr (w.heap.size + 1) 36 (c8 b) ∧ Grew w wr)) (fun i _ => R.length - (intOf i).toNat)
    case atStart => exact ⟨0, by omega, rfl, rfl, hA.out, hB.out, hE.out⟩
    case round =>
      obtain ⟨k, hk, rfl, hI⟩ := hrel
      by_cases hlt : k < R.length
      · obtain ⟨g, o, rfl, hgl, hcl⟩ := hx.out (by omega)
        replace hcl := hide fun j (hj : j < 8) => (hI.out.2.2.2.cell (p := ⟨g, o + k * 8 + j, none⟩) hgl).trans (hcl k j hlt hj)
        have hrb : Hid (In8 (rowAt R k) (-1000) 1000) := hR.out _ (rowAt_mem hlt)
        have hdr : Hid (cmpRows (R.drop k) a b = if dotTo (rowAt R k) a b 8 < 0 then -1 else if 0 < dotTo (rowAt R k) a b 8 then 1 else cmpRows (R.drop (k + 1)) a b) := by rw [drop_rowAt hlt]; rfl
        generalize rowAt R k = r at *
        have r0 : (wr).cell? ⟨g, o + k * 8, none⟩ = some (.int .i64 (r 0)) := hcl.out 0 (by omega)
        have r1 : (wr).cell? ⟨g, o + k * 8 + 1, none⟩ = some (.int .i64 (r 1)) := hcl.out 1 (by omega)
        have r2 : (wr).cell? ⟨g, o + k * 8 + 2, none⟩ = some (.int .i64 (r 2)) := hcl.out 2 (by omega)
        have r3 : (wr).cell? ⟨g, o + k * 8 + 3, none⟩ = some (.int .i64 (r 3)) := hcl.out 3 (by omega)
        have r4 : (wr).cell? ⟨g, o + k * 8 + 4, none⟩ = some (.int .i64 (r 4)) := hcl.out 4 (by omega)
        have r5 : (wr).cell? ⟨g, o + k * 8 + 5, none⟩ = some (.int .i64 (r 5)) := hcl.out 5 (by omega)
        have r6 : (wr).cell? ⟨g, o + k * 8 + 6, none⟩ = some (.int .i64 (r 6)) := hcl.out 6 (by omega)
        have r7 : (wr).cell? ⟨g, o + k * 8 + 7, none⟩ = some (.int .i64 (r 7)) := hcl.out 7 (by omega)
        have hA1 : Hid (Blk (wr.alloc (.cells #[.int .i64 (r 0), .int .i64 (r 1), .int .i64 (r 2), .int .i64 (r 3), .int .i64 (r 4), .int .i64 (r 5), .int .i64 (r 6), .int .i64 (r 7)] 35)) w.heap.size 36 (c8 a)) := hI.out.2.1.alloc _
        have hB1 : Hid (Blk (wr.alloc (.cells #[.int .i64 (r 0), .int .i64 (r 1), .int .i64 (r 2), .int .i64 (r 3), .int .i64 (r 4), .int .i64 (r 5), .int .i64 (r 6), .int .i64 (r 7)] 35)) (w.heap.size + 1) 36 (c8 b)) := hI.out.2.2.1.alloc _
        have hE1 : Hid (Grew w (wr.alloc (.cells #[.int .i64 (r 0), .int .i64 (r 1), .int .i64 (r 2), .int .i64 (r 3), .int .i64 (r 4), .int .i64 (r 5), .int .i64 (r 6), .int .i64 (r 7)] 35))) := hI.out.2.2.2.alloc _
        replace hI := hide hI.out.1
        have hdb := hide (sumTo_bound (dot_in hrb.out ha.out hb.out))
        go_wp2
        generalize (wr.alloc (.cells #[.int .i64 (r 0), .int .i64 (r 1), .int .i64 (r 2), .int .i64 (r 3), .int .i64 (r 4), .int .i64 (r 5), .int .i64 (r 6), .int .i64 (r 7)] 35)) = w2 at *
        clear r0 r1 r2 r3 r4 r5 r6 r7 hcl
        go_loopw [9, 22] (fun s i wr => ∃ j : Nat, j ≤ 8 ∧ i = .int .i64 j ∧ s = .int .i64 (dotTo r a b j) ∧ Hid (Blk wr w.heap.size 36 (c8 a) ∧ Blk wr (w.heap.size + 1) 36 (c8 b) ∧ Grew w wr)) (fun _ i _ => 8 - (intOf i).toNat)
        case atStart => exact ⟨0, by omega, rfl, rfl, hA1.out, hB1.out, hE1.out⟩
        case round =>
          obtain ⟨j, hj, rfl, rfl, hJ⟩ := hrel
          by_cases hj8 : j < 8
          · have hix := fun W => run_index_row r j hj8 W
            have xa := hJ.out.1.at8 hj8
            have xb := hJ.out.2.1.at8 hj8
            have b1 := ha.out j hj8
            have b2 := hb.out j hj8
            have b3 := hrb.out j hj8
            have b4 := hdb.out j hj
            have b5 := hdb.out (j + 1) hj8
            have hst : Hid (dotTo r a b (j + 1) = dotTo r a b j + r j * (a j - b j)) := rfl
            have b6 := mul_bnd (x := r j) (y := a j - b j) (X := 1000) (Y := 2000000) (by omega) (by omega) (by omega) (by omega)
            change _ ≤ dotTo r a b j ∧ dotTo r a b j ≤ _ at b4
            clear b5
            generalize dotTo r a b j = s at *
            generalize a j = x at *
            generalize b j = y at *
            generalize r j = z at *
            simp only [Int.reduceMul] at b6
            go_wp2
            go_quiet (fail)
            go_wp2
            exact ⟨⟨j + 1, hj8, by simp, by rw [hst.out], hJ.out.1, hJ.out.2.1, hJ.out.2.2.drewN _⟩, by simp [intOf]; omega⟩
          · obtain rfl : j = 8 := by omega
            have b4 := hdb.out 8 (by omega)
            change _ ≤ dotTo r a b 8 ∧ dotTo r a b 8 ≤ _ at b4
            generalize dotTo r a b 8 = s at *
            have hdr' := hdr.out
            by_cases h1 : s < 0
            · rw [if_pos h1] at hdr'
              replace hdr' := hide hdr'
              clear hdr
              go_wp2
              go_ret
              exact ⟨by rw [oCmp, hI.out, hdr'.out]; rfl, hJ.out.2.2⟩
            · rw [if_neg h1] at hdr'
              by_cases h2 : 0 < s
              · rw [if_pos h2] at hdr'
                replace hdr' := hide hdr'
                clear hdr
                go_wp2
                go_ret
                exact ⟨by rw [oCmp, hI.out, hdr'.out]; rfl, hJ.out.2.2⟩
              · rw [if_neg h2] at hdr'
                replace hdr' := hide hdr'
                clear hdr
                go_wp2
                exact ⟨⟨k + 1, hlt, by simp, by rw [hI.out, hdr'.out], hJ.out.1, hJ.out.2.1, hJ.out.2.2⟩, by simp [intOf]; omega⟩
      · obtain rfl : k = R.length := by omega
        have a0 : (wr).cell? ⟨w.heap.size, 0, none⟩ = some (.int .i64 (a 0)) := (hI.out.2.1).cell 0
        have a1 : (wr).cell? ⟨w.heap.size, 1, none⟩ = some (.int .i64 (a 1)) := (hI.out.2.1).cell 1
        have a2 : (wr).cell? ⟨w.heap.size, 2, none⟩ = some (.int .i64 (a 2)) := (hI.out.2.1).cell 2
        have a3 : (wr).cell? ⟨w.heap.size, 3, none⟩ = some (.int .i64 (a 3)) := (hI.out.2.1).cell 3
        have a4 : (wr).cell? ⟨w.heap.size, 4, none⟩ = some (.int .i64 (a 4)) := (hI.out.2.1).cell 4
        have a5 : (wr).cell? ⟨w.heap.size, 5, none⟩ = some (.int .i64 (a 5)) := (hI.out.2.1).cell 5
        have a6 : (wr).cell? ⟨w.heap.size, 6, none⟩ = some (.int .i64 (a 6)) := (hI.out.2.1).cell 6
        have a7 : (wr).cell? ⟨w.heap.size, 7, none⟩ = some (.int .i64 (a 7)) := (hI.out.2.1).cell 7
        have b0 : (wr).cell? ⟨w.heap.size + 1, 0, none⟩ = some (.int .i64 (b 0)) := (hI.out.2.2.1).cell 0
        have b1 : (wr).cell? ⟨w.heap.size + 1, 1, none⟩ = some (.int .i64 (b 1)) := (hI.out.2.2.1).cell 1
        have b2 : (wr).cell? ⟨w.heap.size + 1, 2, none⟩ = some (.int .i64 (b 2)) := (hI.out.2.2.1).cell 2
        have b3 : (wr).cell? ⟨w.heap.size + 1, 3, none⟩ = some (.int .i64 (b 3)) := (hI.out.2.2.1).cell 3
        have b4 : (wr).cell? ⟨w.heap.size + 1, 4, none⟩ = some (.int .i64 (b 4)) := (hI.out.2.2.1).cell 4
        have b5 : (wr).cell? ⟨w.heap.size + 1, 5, none⟩ = some (.int .i64 (b 5)) := (hI.out.2.2.1).cell 5
        have b6 : (wr).cell? ⟨w.heap.size + 1, 6, none⟩ = some (.int .i64 (b 6)) := (hI.out.2.2.1).cell 6
        have b7 : (wr).cell? ⟨w.heap.size + 1, 7, none⟩ = some (.int .i64 (b 7)) := (hI.out.2.2.1).cell 7
        have hz : Hid (cmpRows R a b = 0) := by have := hI.out.1; rw [List.drop_length] at this; exact this
        go_wp2_with fail
        refine (mCmp_grew a b _).mono ?_
        rintro e w2 ⟨rfl, hE2⟩
        go_wp2
        go_ret
        exact ⟨by rw [oCmp, hz.out]; rfl, hI.out.2.2.2.trans hE2⟩

end Go.Proofs.YteefhmdameeoaaaGreat
namespace Go.Proofs.YteefhmdameeoaaaGreat
open Go.RowKit

theorem grownBy_refl (w : World) (row : Option Nat) : w.grownBy w row := ⟨rfl, rfl, rfl, Nat.le_refl _, fun _ _ _ => rfl⟩

theorem append_order_any {base : Nat} {w : World} {v x : Value} {R S : List (Nat → Int)} (h : OwnRows 35 base w v R) (hx : RowsAt .i64 35 w x S) (hn : R.length + S.length ≤ 1000000000000) (hb : base ≤ w.heap.size) : AppendRows 35 30 base w v x R S := by
  by_cases h0 : 0 < S.length
  · exact append_order h hx h0 hn hb
  · have e : S = [] := List.eq_nil_of_length_eq_zero (by omega)
    subst e
    obtain ⟨i, hi, hz0, hz1, hz2⟩ := info_parts (show (Tryz.prog.info? 35).map (fun i => (i.zero, i.size, i.bytes)) = some (some (.agg (c8 fun _ => 0)), 8, 64) by kernel_rfl)
    obtain ⟨A, c, rfl, hc, hm, hcells⟩ := hx.open_
    obtain ⟨A', c', rfl, hc', hm', _⟩ := h.rows.open_
    have hs : Src Tryz.prog i.size 30 (.slice A ([] : List (Nat → Int)).length c) 0 [] w := by
      cases A with
      | none => exact Src.ofNil w Tryz.underlying30 c
      | some a => exact Src.ofSlice w Tryz.underlying30 a 0 c [] (by simp) (by simp) (by simp)
    have := run_append_nothing w 30 30 30 35 i Tryz.underlying30 hi A' R.length c' hc' _ hs
    exact ⟨A', c', w, this, by simpa using h, grownBy_refl _ _⟩

theorem append_monos_any {base : Nat} {w : World} {v x : Value} {R S : List (Nat → Int)} (h : OwnRows 36 base w v R) (hx : RowsAt .i64 36 w x S) (hn : R.length + S.length ≤ 1000000000000) (hb : base ≤ w.heap.size) : AppendRows 36 32 base w v x R S := by
  by_cases h0 : 0 < S.length
  · exact append_monos h hx h0 hn hb
  · have e : S = [] := List.eq_nil_of_length_eq_zero (by omega)
    subst e
    obtain ⟨i, hi, hz0, hz1, hz2⟩ := info_parts (show (Tryz.prog.info? 36).map (fun i => (i.zero, i.size, i.bytes)) = some (some (.agg (c8 fun _ => 0)), 8, 64) by kernel_rfl)
    obtain ⟨A, c, rfl, hc, hm, hcells⟩ := hx.open_
    obtain ⟨A', c', rfl, hc', hm', _⟩ := h.rows.open_
    have hs : Src Tryz.prog i.size 32 (.slice A ([] : List (Nat → Int)).length c) 0 [] w := by
      cases A with
      | none => exact Src.ofNil w Tryz.underlying32 c
      | some a => exact Src.ofSlice w Tryz.underlying32 a 0 c [] (by simp) (by simp) (by simp)
    have := run_append_nothing w 32 32 32 36 i Tryz.underlying32 hi A' R.length c' hc' _ hs
    exact ⟨A', c', w, this, by simpa using h, grownBy_refl _ _⟩

set_option maxRecDepth 100000 in
theorem CloneO_any (v : Value) (R : List (Nat → Int)) (w : World) (h : RowsAt .i64 35 w v R) (hn : R.length ≤ 1000000000) :
    Calls Tryz.prog 36 #[v] w (RetOrder R w) := by
  have h' := hide h
  obtain ⟨A, c, rfl, hc, hm, hx⟩ := h.open_
  clear h
  replace hx := hide hx
  cases A with
  | none =>
    have e : R = [] := by
      refine List.eq_nil_of_length_eq_zero ?_
      rcases Nat.eq_zero_or_pos R.length with h0 | h0
      · exact h0
      · obtain ⟨b, o, hA, _⟩ := hx.out h0; cases hA
    subst e
    have hq := fun W => Lib.run_eql_slice_nil (P := Tryz.prog) W 30 35 none 0 c 0 0 Tryz.underlying30
    simp only [Option.isNone_none, List.length_nil] at hq ⊢
    go_enter Tryz.func36, Tryz.ntmps36
    go_wp2
    go_ret
    exact ⟨none, 0, rfl, OwnRows.nil _ _ _, Ext.refl _⟩
  | some a =>
    have hO : Hid (OwnRows 35 w.heap.size (w.alloc (.cells #[] 35)) (.slice (some ⟨w.heap.size, 0, none⟩) 0 0) []) := OwnRows.blk (R := []) (Nat.le_refl _) (Blk.new _ _ _) rfl (by simp)
    obtain ⟨A', c', w', hrun, hO', hg⟩ := append_order_any (base := w.heap.size) (w := w.alloc (.cells #[] 35)) (S := R) hO.out (h'.out.ext ((Ext.refl _).alloc _)) (by simp; omega) (by simp)
    have hE : Hid (Ext w w') := ((Ext.refl w).alloc _).grown' hg hO.out.base_le
    simp only [List.length_nil, Nat.zero_add, List.nil_append] at hrun hO'
    replace hrun := hide hrun
    replace hO' := hide hO'
    clear hg
    have hq := fun W => Lib.run_eql_slice_nil (P := Tryz.prog) W 30 35 (some a) R.length c 0 0 Tryz.underlying30
    simp only [Option.isNone_some] at hq
    go_enter Tryz.func36, Tryz.ntmps36
    go_wp2_with (at_builtin; go_loud (refine wpList_append_run rfl _ _ _ rfl _ _ rfl rfl hrun.out ?_))
    go_ret
    exact ⟨A', c', rfl, hO'.out, hE.out⟩

set_option maxRecDepth 100000 in
theorem CloneM_any (v : Value) (R : List (Nat → Int)) (w : World) (h : RowsAt .i64 36 w v R) (hn : R.length ≤ 1000000000) :
    Calls Tryz.prog 42 #[v] w (RetMonos R w) := by
  have h' := hide h
  obtain ⟨A, c, rfl, hc, hm, hx⟩ := h.open_
  clear h
  replace hx := hide hx
  cases A with
  | none =>
    have e : R = [] := by
      refine List.eq_nil_of_length_eq_zero ?_
      rcases Nat.eq_zero_or_pos R.length with h0 | h0
      · exact h0
      · obtain ⟨b, o, hA, _⟩ := hx.out h0; cases hA
    subst e
    have hq := fun W => Lib.run_eql_slice_nil (P := Tryz.prog) W 32 36 none 0 c 0 0 Tryz.underlying32
    simp only [Option.isNone_none, List.length_nil] at hq ⊢
    go_enter Tryz.func42, Tryz.ntmps42
    go_wp2
    go_ret
    exact ⟨none, 0, rfl, OwnRows.nil _ _ _, Ext.refl _⟩
  | some a =>
    have hO : Hid (OwnRows 36 w.heap.size (w.alloc (.cells #[] 36)) (.slice (some ⟨w.heap.size, 0, none⟩) 0 0) []) := OwnRows.blk (R := []) (Nat.le_refl _) (Blk.new _ _ _) rfl (by simp)
    obtain ⟨A', c', w', hrun, hO', hg⟩ := append_monos_any (base := w.heap.size) (w := w.alloc (.cells #[] 36)) (S := R) hO.out (h'.out.ext ((Ext.refl _).alloc _)) (by simp; omega) (by simp)
    have hE : Hid (Ext w w') := ((Ext.refl w).alloc _).grown' hg hO.out.base_le
    simp only [List.length_nil, Nat.zero_add, List.nil_append] at hrun hO'
    replace hrun := hide hrun
    replace hO' := hide hO'
    clear hg
    have hq := fun W => Lib.run_eql_slice_nil (P := Tryz.prog) W 32 36 (some a) R.length c 0 0 Tryz.underlying32
    simp only [Option.isNone_some] at hq
    go_enter Tryz.func42, Tryz.ntmps42
    go_wp2_with (at_builtin; go_loud (refine wpList_append_run rfl _ _ _ rfl _ _ rfl rfl hrun.out ?_))
    go_ret
    exact ⟨A', c', rfl, hO'.out, hE.out⟩

end Go.Proofs.YteefhmdameeoaaaGreat
namespace Go.Proofs.YteefhmdameeoaaaGreat
open Go.RowKit Go.Sort

/-- A monomial with bounded exponents. -/
def B8 : Type := { a : Nat → Int // In8 a (-1000000) 1000000 }
instance : Inhabited B8 := ⟨⟨fun _ => 0, fun _ _ => ⟨(by decide : (-1000000 : Int) ≤ 0), (by decide : (0 : Int) ≤ 1000000)⟩⟩⟩
def encB (x : B8) : List Value := (c8 x.val).toList
def cfB (R : List (Nat → Int)) (x y : B8) : Int := oCmp R y.val x.val

set_option maxRecDepth 100000 in
theorem closure_any (R : List (Nat → Int)) (x y : B8) (v : Value) (B : Nat) (W : World) (hb : W.cell? ⟨B, 0, none⟩ = some v) (h : RowsAt .i64 35 W v R) (hR : ∀ r ∈ R, In8 r (-1000) 1000) :
    Calls Tryz.prog 44 #[.agg (encB x).toArray, .agg (encB y).toArray, .pointer (some ⟨B, 0, none⟩)] W fun e w' => e = .returned (.int .i64 (cfB R x y)) ∧ ∃ q os', w' = grow (W.drewN q) os' := by
  obtain ⟨a, ha⟩ := x
  obtain ⟨b, hb'⟩ := y
  show Calls Tryz.prog 44 #[.agg #[.int .i64 (a 0), .int .i64 (a 1), .int .i64 (a 2), .int .i64 (a 3), .int .i64 (a 4), .int .i64 (a 5), .int .i64 (a 6), .int .i64 (a 7)], .agg #[.int .i64 (b 0), .int .i64 (b 1), .int .i64 (b 2), .int .i64 (b 3), .int .i64 (b 4), .int .i64 (b 5), .int .i64 (b 6), .int .i64 (b 7)], .pointer (some ⟨B, 0, none⟩)] W fun e w' => e = .returned (.int .i64 (oCmp R b a)) ∧ ∃ q os', w' = grow (W.drewN q) os'
  obtain ⟨A, c, rfl, hc, hm, hx⟩ := h.open_
  have hE : Hid (Grew W ((W.alloc (.cells #[.int .i64 (a 0), .int .i64 (a 1), .int .i64 (a 2), .int .i64 (a 3), .int .i64 (a 4), .int .i64 (a 5), .int .i64 (a 6), .int .i64 (a 7)] 36)).alloc (.cells #[.int .i64 (b 0), .int .i64 (b 1), .int .i64 (b 2), .int .i64 (b 3), .int .i64 (b 4), .int .i64 (b 5), .int .i64 (b 6), .int .i64 (b 7)] 36))) := ((Grew.refl _).alloc _).alloc _
  have hbl : B < W.heap.size := World.block_lt_of_cell? W ⟨B, 0, none⟩ hb
  have h2 := hide (h.ext hE.out.1)
  clear h hx hc hm
  replace hR := hide hR
  replace ha := hide ha
  replace hb' := hide hb'
  go_enter Tryz.func44, Tryz.ntmps44
  go_wp2_with fail
  refine (oCmp_grew _ R b a _ h2.out hR.out hb'.out ha.out).mono ?_
  rintro e w1 ⟨rfl, hE1⟩
  have hg := hide (hE.out.trans hE1).grow
  clear hE1
  go_wp2
  go_ret
  exact ⟨rfl, hg.out⟩

theorem sortWorld_block {α : Type} [Inhabited α] (enc : α → List Value) (k : Nat) (w : World) (blk off m : Nat) (dk : Array α) (os : Array Obj) {b : Nat} (hb : b < w.heap.size) (hne : b ≠ blk) : (sortWorldK enc k w blk off m dk os).heap[b]? = w.heap[b]? := by
  unfold sortWorldK
  rw [heap_grow_old _ _ (by rw [size_putRowK]; exact hb)]
  unfold putRowK putRow mapBlock
  simp only [Array.getElem?_modify]
  rw [if_neg (show ¬ blk = b from fun h => hne h.symm)]
  rfl
theorem sortWorld_cells {α : Type} [Inhabited α] (enc : α → List Value) (k : Nat) (w : World) (blk off m : Nat) (dk : Array α) (os : Array Obj) {cur : Array Value} {t : TypeId} {fz : Nat × Nat} (hb : w.heap[blk]? = some (.cells cur t fz)) : (sortWorldK enc k w blk off m dk os).heap[blk]? = some (.cells (putCells id off (flatK enc k dk) cur) t fz) := by
  have hlt : blk < w.heap.size := lt_of_heap hb
  unfold sortWorldK
  rw [heap_grow_old _ _ (by rw [size_putRowK]; exact hlt)]
  unfold putRowK putRow mapBlock
  simp only [Array.getElem?_modify, if_pos rfl]
  show Option.map _ (w.heap[blk]?) = _
  rw [hb]
  rfl
theorem sortWorld_below {α : Type} [Inhabited α] (enc : α → List Value) (k : Nat) (w : World) (blk off m : Nat) (dk : Array α) (os : Array Obj) {B : Nat} (hB : B ≤ blk) (hBw : B ≤ w.heap.size) : Below B w (sortWorldK enc k w blk off m dk os) :=
  ⟨rfl, rfl, rfl, size_sortWorldK_c enc k w blk off m dk os, fun b hb => sortWorld_block enc k w blk off m dk os (by omega) (by omega)⟩

/-- Rows with bounds, as an array. -/
def arrB (n : Nat) (f : Nat → B8) : Array B8 := (Array.range n).map f
theorem arrB_size (n : Nat) (f : Nat → B8) : (arrB n f).size = n := by simp [arrB]
theorem arrB_get (n : Nat) (f : Nat → B8) {i : Nat} (h : i < n) : (arrB n f)[i]! = f i := by
  rw [getElem!_pos _ i (by rw [arrB_size]; exact h)]; simp [arrB]
theorem encB_get (x : B8) {j : Nat} (h : j < 8) : (encB x)[j]! = .int .i64 (x.val j) := by
  rcases lt8 h with rfl | rfl | rfl | rfl | rfl | rfl | rfl | rfl <;> rfl

theorem swo_oCmp (R : List (Nat → Int)) : SWO (ltOf (cfB R)) where
  irrefl x := by simp [ltOf, cfB, oCmp_eq (a := x.val) (b := x.val) (fun _ _ => rfl) R]
  trans x y z h1 h2 := by
    have h1 : oCmp R y.val x.val < 0 := of_decide_eq_true h1
    have h2 : oCmp R z.val y.val < 0 := of_decide_eq_true h2
    show decide (oCmp R z.val x.val < 0) = true
    rw [decide_eq_true_eq]
    have e1 := oCmp_neg R x.val y.val
    have e2 := oCmp_neg R y.val z.val
    have e3 := oCmp_neg R x.val z.val
    have := (oCmp_trans (R := R) (a := x.val) (b := y.val) (c := z.val) (by omega) (by omega)).2 (.inl (by omega))
    omega
  ntrans x y z h1 h2 := by
    have h1 : ¬ oCmp R y.val x.val < 0 := of_decide_eq_false h1
    have h2 : ¬ oCmp R z.val y.val < 0 := of_decide_eq_false h2
    show decide (oCmp R z.val x.val < 0) = false
    rw [decide_eq_false_iff_not]
    have e1 := oCmp_neg R x.val y.val
    have e2 := oCmp_neg R y.val z.val
    have e3 := oCmp_neg R x.val z.val
    have := (oCmp_trans (R := R) (a := z.val) (b := y.val) (c := x.val) (by omega) (by omega)).1
    omega

theorem grid_holds {w : World} {g c : Nat} {t : TypeId} {n : Nat} {f : Nat → B8} (h : GridAt w g c t n fun i => (f i).val) : HoldsK encB 8 w g 0 (arrB n f) := by
  intro q hq
  rw [size_flatK, arrB_size] at hq
  rw [get_flatK _ _ _ _ (by rw [arrB_size]; exact hq), arrB_get n f (by omega), encB_get _ (by omega), Nat.zero_add]
  have := h.cell (i := q / 8) (j := q % 8) (by omega) (by omega)
  rw [show q / 8 * 8 + q % 8 = q by omega] at this
  exact ⟨this, h.frozen q⟩
theorem grid_sorted {w : World} {g c : Nat} {t : TypeId} {n m : Nat} {f : Nat → Nat → Int} {dk : Array B8} {os : Array Obj} (h : GridAt w g c t n f) (hd : dk.size = n) : GridAt (sortWorldK encB 8 w g 0 m dk os) g c t n fun i => (dk[i]!).val := by
  obtain ⟨cur, h1, h2, h3, h4, h5⟩ := h
  refine ⟨_, sortWorld_cells encB 8 w g 0 m dk os h1, by simp [putCells, h2], h3, h4, fun i j hi hj => ?_⟩
  unfold putCells
  rw [Array.getElem?_mapIdx, h5 i j hi hj]
  simp only [Option.map_some, size_flatK, hd]
  rw [if_pos (by omega), Nat.sub_zero, get_flatK _ _ _ _ (by omega), show (i * 8 + j) / 8 = i by omega, show (i * 8 + j) % 8 = j by omega, encB_get _ hj]
  rfl

/-- What the sort leaves: the rows, permuted and sorted. -/
def SortedRows (R : List (Nat → Int)) (n : Nat) (f f' : Nat → B8) : Prop :=
  ((List.range n).map f').Perm ((List.range n).map f) ∧ ∀ i j, i < j → j < n → 0 ≤ oCmp R (f' i).val (f' j).val

theorem SortFunc_any (R : List (Nat → Int)) (v : Value) (B g c n : Nat) (f : Nat → B8) (w : World) (hb : w.cell? ⟨B, 0, none⟩ = some v) (hB : B ≠ g) (h : RowsAt .i64 35 w v R) (hv : ∀ b o m k, v = .slice (some ⟨b, o, none⟩) m k → 0 < R.length → b ≠ g) (hR : ∀ r ∈ R, In8 r (-1000) 1000) (hG : GridAt w g c 36 n fun i => (f i).val) (hn : n < 4611686018427387904) :
    Calls Tryz.prog 43 #[.slice (some ⟨g, 0, none⟩) n c, .func (.func 44) #[] #[.pointer (some ⟨B, 0, none⟩)]] w fun e w' => e = .returned (.tuple #[]) ∧ ∃ f' : Nat → B8, SortedRows R n f f' ∧ GridAt w' g c 36 n (fun i => (f' i).val) ∧ Below g w w' := by
  have eg : ∀ args w, (callFunc 44 args).run Tryz.prog w = .ok (.enter 44 args) w := enters_of Tryz.func44 (by kernel_rfl) rfl
  have hgl : g < w.heap.size := by obtain ⟨cur, h1, _⟩ := hG; exact lt_of_heap h1
  have hbl : B < w.heap.size := World.block_lt_of_cell? w ⟨B, 0, none⟩ hb
  have hcmp : CmpLays Tryz.prog 44 #[.pointer (some ⟨B, 0, none⟩)] encB 8 (cfB R) g 0 (arrB n f).size w := by
    intro m os dk hdk x y
    refine closure_any R x y v B _ ?_ ?_ hR
    · exact (World.cell?_of_block (sortWorld_block encB 8 w g 0 m dk os hbl hB)).trans hb
    · obtain ⟨A, c, rfl, h2, h3, h4⟩ := h
      refine ⟨A, c, rfl, h2, h3, fun hp => ?_⟩
      obtain ⟨b, o, cs, fz, rfl, h6, h7⟩ := h4 hp
      exact ⟨b, o, cs, fz, rfl, (sortWorld_block encB 8 w g 0 m dk os (lt_of_heap h6) (hv b o _ _ rfl hp)).trans h6, h7⟩
  have hcon := AnyQ.slices_SortFunc Tryz.sortMono 8 Tryz.isAgg36 Tryz.sizeOf36 encB (fun _ => rfl) (fun x v hv => by simp [encB, c8] at hv; rcases hv with rfl | rfl | rfl | rfl | rfl | rfl | rfl | rfl <;> rfl) (cfB R) (swo_oCmp R) 44 #[.pointer (some ⟨B, 0, none⟩)] g 0 c (arrB n f) w eg hcmp (grid_holds hG) hgl (by rw [arrB_size]; exact hn)
  change Calls Tryz.prog 43 _ _ _ at hcon
  rw [arrB_size] at hcon
  refine hcon.mono ?_
  rintro e w' ⟨rfl, d', q, os, hp, hs, rfl⟩
  have hsz : d'.size = n := hp.1.trans (arrB_size n f)
  refine ⟨rfl, fun i => d'[i]!, ⟨?_, fun i j hij hj => ?_⟩, grid_sorted hG hsz, sortWorld_below encB 8 w g 0 q d' os (Nat.le_refl _) (by omega)⟩
  · have h3 := hp.2.2
    have e1 : (d'.extract 0 n).toList = (List.range n).map fun i => d'[i]! := by
      refine List.ext_getElem (by simp [hsz]) fun i h1 h2 => ?_
      simp at h2
      simp [getElem!_pos d' i (by omega)]
    have e2 : ((arrB n f).extract 0 n).toList = (List.range n).map f := by
      refine List.ext_getElem (by simp [arrB_size]) fun i h1 h2 => ?_
      simp [arrB]
    rw [e1, e2] at h3
    exact h3
  · have := hs i j (Nat.zero_le _) hij hj
    have this : ¬ oCmp R (d'[i]!).val (d'[j]!).val < 0 := of_decide_eq_false this
    show 0 ≤ oCmp R (d'[i]!).val (d'[j]!).val
    omega

end Go.Proofs.YteefhmdameeoaaaGreat
namespace Go.Proofs.YteefhmdameeoaaaGreat
open Go.RowKit

theorem _root_.Go.RowKit.Below.drewN' {B : Nat} {a b : World} (h : Below B a b) (n : Nat) : Below B a (b.drewN n) := by
  obtain ⟨h1, h2, h3, h4, h5⟩ := h
  exact ⟨h1, h2, h3, h4, h5⟩
/-- A row written at a place. -/
def row8 (w : World) (g o : Nat) (x : Nat → Int) : World := (((((((w.setCell ⟨g, o, none⟩ (.int .i64 (x 0))).setCell ⟨g, o + 1, none⟩ (.int .i64 (x 1))).setCell ⟨g, o + 2, none⟩ (.int .i64 (x 2))).setCell ⟨g, o + 3, none⟩ (.int .i64 (x 3))).setCell ⟨g, o + 4, none⟩ (.int .i64 (x 4))).setCell ⟨g, o + 5, none⟩ (.int .i64 (x 5))).setCell ⟨g, o + 6, none⟩ (.int .i64 (x 6))).setCell ⟨g, o + 7, none⟩ (.int .i64 (x 7))
theorem GridAt.row8 {w : World} {g c : Nat} {t : TypeId} {n : Nat} {h h' : Nat → Nat → Int} (H : GridAt w g c t n h) {k : Nat} (hk : k < n) {x : Nat → Int} (e1 : ∀ j, j < 8 → h' k j = x j) (e2 : ∀ i, i ≠ k → ∀ j, j < 8 → h' i j = h i j) : GridAt (row8 w g (k * 8) x) g c t n h' := by
  have step : ∀ {w : World} {m : Nat}, m < 8 → GridAt w g c t n (fun i j => if i = k ∧ j < m then x j else h i j) → GridAt (w.setCell ⟨g, k * 8 + m, none⟩ (.int .i64 (x m))) g c t n (fun i j => if i = k ∧ j < m + 1 then x j else h i j) := fun {w m} hm H => by
    refine H.set hk hm (by simp) fun a b ha hb hne => ?_
    by_cases ea : a = k
    · have : b ≠ m := fun e => hne ⟨ea, e⟩
      by_cases hb1 : b < m
      · simp [ea, hb1, show b < m + 1 by omega]
      · simp [ea, hb1, show ¬ b < m + 1 by omega]
    · simp [ea]
  have H0 : GridAt w g c t n (fun i j => if i = k ∧ j < 0 then x j else h i j) := H.congr fun a b _ _ => by simp
  have H8 := step (by omega) (step (by omega) (step (by omega) (step (by omega) (step (by omega) (step (by omega) (step (by omega) (step (m := 0) (by omega) H0)))))))
  refine H8.congr fun a b ha hb => ?_
  by_cases ea : a = k
  · subst ea; rw [e1 b hb, if_pos ⟨rfl, by omega⟩]
  · rw [e2 a ea b hb, if_neg (fun h => ea h.1)]
theorem _root_.Go.RowKit.Below.row8 {B : Nat} {a b : World} (h : Below B a b) {g : Nat} (hg : B ≤ g) (o : Nat) (x : Nat → Int) : Below B a (row8 b g o x) :=
  (((((((h.setCell (p := ⟨g, o, none⟩) hg _).setCell (p := ⟨g, o + 1, none⟩) hg _).setCell (p := ⟨g, o + 2, none⟩) hg _).setCell (p := ⟨g, o + 3, none⟩) hg _).setCell (p := ⟨g, o + 4, none⟩) hg _).setCell (p := ⟨g, o + 5, none⟩) hg _).setCell (p := ⟨g, o + 6, none⟩) hg _).setCell (p := ⟨g, o + 7, none⟩) hg _
theorem GridAt.setCells {g c : Nat} {t : TypeId} {n : Nat} {h : Nat → Nat → Int} : ∀ (vs : List Value) (o : Nat) (w : World), n * 8 ≤ o → GridAt w g c t n h → GridAt (w.setCells g o vs) g c t n h
  | [], _, _, _, H => H
  | v :: vs, o, w, ho, H => by
    refine GridAt.setCells vs (o + 1) _ (by omega) ?_
    obtain ⟨cur, k1, k2, k3, k4, k5⟩ := H
    exact ⟨_, Blk.set (cs := cur) k1 o v, by simpa using k2, k3, k4, fun i j hi hj => by rw [Array.getElem?_setIfInBounds_ne (by omega)]; exact k5 i j hi hj⟩
theorem below_setCells {B : Nat} {a : World} {g : Nat} (hg : B ≤ g) : ∀ (vs : List Value) (o : Nat) (b : World), Below B a b → Below B a (b.setCells g o vs)
  | [], _, _, h => h
  | v :: vs, o, b, h => below_setCells hg vs (o + 1) _ (h.setCell (p := ⟨g, o, none⟩) hg v)
theorem GridAt.less {w : World} {g c : Nat} {t : TypeId} {n m : Nat} {h : Nat → Nat → Int} (H : GridAt w g c t n h) (hm : m ≤ n) : GridAt w g c t m h := by
  obtain ⟨cur, k1, k2, k3, k4, k5⟩ := H
  exact ⟨cur, k1, k2, by omega, k4, fun i j hi hj => k5 i j (by omega) hj⟩
theorem run_clear_monos (w : World) (ty g k n c : Nat) (hn : 0 < n) (hc : ∀ j, j < n * 8 → (w.cell? ⟨g, k * 8 + j, none⟩).isSome = true) (hf : ∀ j, w.frozen? ⟨g, j, none⟩ = false) :
    (Builtin.clear_ #[32] ty #[.slice (some ⟨g, k * 8, none⟩) n c]).run Tryz.prog w = .ok (.tuple #[]) (w.setCells g (k * 8) (List.replicate (n * 8) (.int .i64 0))) := by
  have hz : (Builtin.zeroCells (Value.agg (c8 fun _ => 0)).cells n).toList = List.replicate (n * 8) (.int .i64 0) := by
    apply List.ext_getElem
    · simp [Builtin.zeroCells, Value.cells, c8]
    · intro i h1 h2
      have h8 : i % 8 < 8 := by omega
      simp only [Builtin.zeroCells, Value.cells, c8, List.getElem_replicate, Array.getElem_toList, Array.getElem_map, Array.getElem_range, List.size_toArray, List.length_cons, List.length_nil, Nat.reduceAdd]
      rcases lt8 h8 with h | h | h | h | h | h | h | h <;> rw [h] <;> rfl
  have hst := run_storeCells_cells (P := Tryz.prog) g (k * 8) (List.replicate (n * 8) (.int .i64 0)) 0 w (by simpa using hc) (by simpa using fun j _ => hf _) (by intro v hv'; rw [List.eq_of_mem_replicate hv']; rfl)
  simp only [Nat.add_zero] at hst
  obtain ⟨m, rfl⟩ : ∃ m, n = m + 1 := ⟨n - 1, by omega⟩
  have hv : ∀ w, (zeroValue 36).run Tryz.prog w = .ok (.agg (c8 fun _ => 0)) w := Tryz.zeroValue36
  simp [Builtin.clear_, run_underlying Tryz.underlying32, hv, hz, hst]
/-- The rows among the first m that differ from the one before. -/
def cmpTo (f : Nat → Nat → Int) : Nat → List (Nat → Int)
  | 0 => []
  | m + 1 => if m = 0 ∨ eqB (f m) (f (m - 1)) = false then cmpTo f m ++ [f m] else cmpTo f m
theorem cmpTo_len (f : Nat → Nat → Int) : ∀ m, (cmpTo f m).length ≤ m
  | 0 => Nat.le_refl _
  | m + 1 => by
    have := cmpTo_len f m
    rw [cmpTo]
    split
    · simp; omega
    · omega
theorem cmpTo_all {f : Nat → Nat → Int} : ∀ {k : Nat}, (∀ i, 1 ≤ i → i < k → eqB (f i) (f (i - 1)) = false) → cmpTo f k = rowsOf k f
  | 0, _ => rfl
  | k + 1, h => by
    rw [cmpTo, cmpTo_all fun i h1 h2 => h i h1 (by omega), if_pos]
    · simp [rowsOf, List.range_succ]
    · by_cases e : k = 0
      · exact .inl e
      · exact .inr (h k (by omega) (by omega))
theorem rowAt_append_left {R S : List (Nat → Int)} {i : Nat} (h : i < R.length) : rowAt (R ++ S) i = rowAt R i := by
  simp [rowAt, List.getD_eq_getElem?_getD, List.getElem?_append_left h]
theorem rowAt_snoc (R : List (Nat → Int)) (a : Nat → Int) : rowAt (R ++ [a]) R.length = a := by
  simp [rowAt, List.getD_eq_getElem?_getD]
/-- The state of the second loop: the first m rows read, the rows below kk written. -/
def CompInv (f : Nat → Nat → Int) (n m kk : Nat) (h : Nat → Nat → Int) : Prop :=
  kk = (cmpTo f m).length ∧ kk + 1 ≤ m ∧ m ≤ n ∧ (∀ i, i < kk → ∀ j, j < 8 → h i j = rowAt (cmpTo f m) i j) ∧ ∀ i, m ≤ i + 1 → i < n → ∀ j, j < 8 → h i j = f i j
theorem CompInv.start {f : Nat → Nat → Int} {n k : Nat} (h : ∀ i, 1 ≤ i → i < k → eqB (f i) (f (i - 1)) = false) (h1 : 1 ≤ k) (hk : k < n) (hd : eqB (f k) (f (k - 1)) = true) : CompInv f n (k + 1) k f := by
  have e : cmpTo f (k + 1) = rowsOf k f := by
    rw [cmpTo, if_neg (by rw [hd]; simp; omega), cmpTo_all h]
  refine ⟨by rw [e, rowsOf_length], by omega, hk, fun i hi j hj => by rw [e, rowAt_rowsOf f hi], fun i _ _ j _ => rfl⟩
theorem CompInv.skip {f h : Nat → Nat → Int} {n m kk : Nat} (I : CompInv f n m kk h) (hm : m < n) (hd : eqB (f m) (f (m - 1)) = true) : CompInv f n (m + 1) kk h := by
  obtain ⟨h1, h2, h3, h4, h5⟩ := I
  have e : cmpTo f (m + 1) = cmpTo f m := by
    rw [cmpTo, if_neg (by rw [hd]; simp; omega)]
  exact ⟨by rw [e]; exact h1, by omega, hm, by rw [e]; exact h4, fun i hi hn => h5 i (by omega) hn⟩
theorem CompInv.keep {f h h' : Nat → Nat → Int} {n m kk : Nat} (I : CompInv f n m kk h) (hm : m < n) (hd : eqB (f m) (f (m - 1)) = false) (e1 : ∀ j, j < 8 → h' kk j = f m j) (e2 : ∀ i, i ≠ kk → ∀ j, j < 8 → h' i j = h i j) : CompInv f n (m + 1) (kk + 1) h' := by
  obtain ⟨h1, h2, h3, h4, h5⟩ := I
  have e : cmpTo f (m + 1) = cmpTo f m ++ [f m] := by
    rw [cmpTo, if_pos (.inr hd)]
  refine ⟨by rw [e, List.length_append, ← h1]; rfl, by omega, hm, fun i hi j hj => ?_, fun i hi hn j hj => ?_⟩
  · rw [e]
    by_cases hik : i = kk
    · subst hik
      rw [e1 j hj]
      have := rowAt_snoc (cmpTo f m) (f m)
      rw [← h1] at this
      rw [this]
    · rw [rowAt_append_left (by omega), e2 i hik j hj, h4 i (by omega) j hj]
  · rw [e2 i (by omega) j hj, h5 i (by omega) hn j hj]

set_option maxRecDepth 100000 in
set_option maxHeartbeats 1600000 in
theorem Compact_any (g c n : Nat) (f : Nat → Nat → Int) (w : World) (hG : GridAt w g c 36 n f) :
    Calls Tryz.prog 45 #[.slice (some ⟨g, 0, none⟩) n c] w fun e w' => e = .returned (.slice (some ⟨g, 0, none⟩) (cmpTo f n).length c) ∧ GridAt w' g c 36 (cmpTo f n).length (rowAt (cmpTo f n)) ∧ Below g w w' := by
  have hc : n ≤ c := by obtain ⟨_, _, _, h, _⟩ := hG; exact h
  have hm : c ≤ 9223372036854775807 := by obtain ⟨_, _, _, _, h, _⟩ := hG; simpa [maxLen] using h
  replace hG := hide hG
  have hall : Hid ((∀ i, 1 ≤ i → i < n → eqB (f i) (f (i - 1)) = false) → (cmpTo f n).length = n ∧ ∀ i, i < n → ∀ j, j < 8 → rowAt (cmpTo f n) i j = f i j) := fun h => by
    rw [cmpTo_all h]; exact ⟨rowsOf_length n f, fun i hi j _ => by rw [rowAt_rowsOf f hi]⟩
  have hfin : Hid ((∀ i, 1 ≤ i → i < n → eqB (f i) (f (i - 1)) = false) → ∀ wr : World, GridAt wr g c 36 n f → GridAt wr g c 36 (cmpTo f n).length (rowAt (cmpTo f n))) := fun h wr hw => by
    obtain ⟨h1, h2⟩ := hall.out h
    rw [h1]
    exact hw.congr fun a b ha hb => h2 a ha b hb
  by_cases h2 : n < 2
  · have he : Hid (∀ i, 1 ≤ i → i < n → eqB (f i) (f (i - 1)) = false) := fun i h1 h3 => by omega
    go_enter Tryz.func45, Tryz.ntmps45
    go_wp2
    go_ret
    exact ⟨by rw [(hall.out he.out).1]; rfl, hfin.out he.out _ hG.out, Below.refl _ _⟩
  · go_enter Tryz.func45, Tryz.ntmps45
    go_wp2
    go_loopw [3] (fun i wr => ∃ k : Nat, 1 ≤ k ∧ k ≤ n ∧ i = .int .i64 k ∧ Hid ((∀ i, 1 ≤ i → i < k → eqB (f i) (f (i - 1)) = false) ∧ GridAt wr g c 36 n f ∧ Below g w wr)) (fun i _ => n - (intOf i).toNat)
    case atStart => exact ⟨1, by omega, by omega, rfl, fun i h1 h3 => by omega, hG.out, Below.refl _ _⟩
    case round =>
      obtain ⟨k, hk1, hk, rfl, hI⟩ := hrel
      by_cases hlt : k < n
      · have hcl : Hid (∀ j, j < 8 → wr.cell? ⟨g, k * 8 + j, none⟩ = some (.int .i64 (f k j))) := fun j hj => hI.out.2.1.cell hlt hj
        have hcl' : Hid (∀ j, j < 8 → wr.cell? ⟨g, (k - 1) * 8 + j, none⟩ = some (.int .i64 (f (k - 1) j))) := fun j hj => hI.out.2.1.cell (by omega) hj
        have hd1 : decide (k < n) = true := by simpa using hlt
        have hst := hide (fun hd => CompInv.start hI.out.1 hk1 hlt hd)
        have hne : Hid (eqB (f k) (f (k - 1)) = false → ∀ i, 1 ≤ i → i < k + 1 → eqB (f i) (f (i - 1)) = false) := fun h i h1 h3 => by
          by_cases e : i = k
          · rw [e]; exact h
          · exact hI.out.1 i h1 (by omega)
        generalize f k = x at *
        generalize f (k - 1) = y at *
        have r0 : (wr).cell? ⟨g, k * 8, none⟩ = some (.int .i64 (x 0)) := hcl.out 0 (by omega)
        have r1 : (wr).cell? ⟨g, k * 8 + 1, none⟩ = some (.int .i64 (x 1)) := hcl.out 1 (by omega)
        have r2 : (wr).cell? ⟨g, k * 8 + 2, none⟩ = some (.int .i64 (x 2)) := hcl.out 2 (by omega)
        have r3 : (wr).cell? ⟨g, k * 8 + 3, none⟩ = some (.int .i64 (x 3)) := hcl.out 3 (by omega)
        have r4 : (wr).cell? ⟨g, k * 8 + 4, none⟩ = some (.int .i64 (x 4)) := hcl.out 4 (by omega)
        have r5 : (wr).cell? ⟨g, k * 8 + 5, none⟩ = some (.int .i64 (x 5)) := hcl.out 5 (by omega)
        have r6 : (wr).cell? ⟨g, k * 8 + 6, none⟩ = some (.int .i64 (x 6)) := hcl.out 6 (by omega)
        have r7 : (wr).cell? ⟨g, k * 8 + 7, none⟩ = some (.int .i64 (x 7)) := hcl.out 7 (by omega)
        have s0 : (wr).cell? ⟨g, (k - 1) * 8, none⟩ = some (.int .i64 (y 0)) := hcl'.out 0 (by omega)
        have s1 : (wr).cell? ⟨g, (k - 1) * 8 + 1, none⟩ = some (.int .i64 (y 1)) := hcl'.out 1 (by omega)
        have s2 : (wr).cell? ⟨g, (k - 1) * 8 + 2, none⟩ = some (.int .i64 (y 2)) := hcl'.out 2 (by omega)
        have s3 : (wr).cell? ⟨g, (k - 1) * 8 + 3, none⟩ = some (.int .i64 (y 3)) := hcl'.out 3 (by omega)
        have s4 : (wr).cell? ⟨g, (k - 1) * 8 + 4, none⟩ = some (.int .i64 (y 4)) := hcl'.out 4 (by omega)
        have s5 : (wr).cell? ⟨g, (k - 1) * 8 + 5, none⟩ = some (.int .i64 (y 5)) := hcl'.out 5 (by omega)
        have s6 : (wr).cell? ⟨g, (k - 1) * 8 + 6, none⟩ = some (.int .i64 (y 6)) := hcl'.out 6 (by omega)
        have s7 : (wr).cell? ⟨g, (k - 1) * 8 + 7, none⟩ = some (.int .i64 (y 7)) := hcl'.out 7 (by omega)
        have hq := fun W => run_eq_mono x y W
        have e1 : IntKind.i64.wrap ((k : Int) - 1) = (k : Int) - 1 := IntWalk.i64_in _ (by omega)
        have e2 : (0 : Int) ≤ (k : Int) - 1 := by omega
        have e2' : (1 : Int) ≤ (k : Int) := by omega
        have e3 : ((k : Int) - 1).toNat = k - 1 := by omega
        have e4 : (k : Int) - 1 < n := by omega
        cases he : eqB x y with
        | true =>
          rw [he] at hq hst
          go_wp2
          go_quiet (fail)
          have hst' := hide (hst.out trivial)
          have hG2 : Hid (GridAt (wr.drewN nq) g c 36 n f ∧ Below g w (wr.drewN nq)) := ⟨hI.out.2.1.drewN _, hI.out.2.2.drewN' _⟩
          clear e1 e2 e2' e3 e4 r0 r1 r2 r3 r4 r5 r6 r7 s0 s1 s2 s3 s4 s5 s6 s7 hst hne hcl hcl' hI he hq
          generalize wr.drewN nq = w2 at *
          go_wp2
          go_loopw [3, 5] (fun i5 i wr => ∃ (kk k2 : Nat) (h : Nat → Nat → Int), 1 ≤ k2 ∧ k + k2 ≤ n ∧ kk + 1 ≤ k + k2 ∧ i5 = .int .i64 kk ∧ i = .int .i64 k2 ∧ Hid (CompInv f n (k + k2) kk h ∧ GridAt wr g c 36 n h ∧ Below g w wr)) (fun _ i _ => n - (intOf i).toNat)
          case atStart => exact ⟨k, 1, f, by omega, by omega, by omega, rfl, rfl, hst'.out, hG2.out⟩
          case round =>
            clear hst' hG2
            obtain ⟨kk, k2, h, hk2, hkn, hkk, rfl, rfl, hJ⟩ := hrel
            by_cases hlt2 : k + k2 < n
            · have hlt2' : k2 < n - k := by omega
              have hcl : Hid (∀ j, j < 8 → wr.cell? ⟨g, k * 8 + k2 * 8 + j, none⟩ = some (.int .i64 (f (k + k2) j))) := fun j hj => by
                have := hJ.out.2.1.cell (i := k + k2) (j := j) hlt2 hj
                rw [hJ.out.1.2.2.2.2 _ (by omega) hlt2 j hj] at this
                rw [show k * 8 + k2 * 8 + j = (k + k2) * 8 + j by omega]
                exact this
              have hcl' : Hid (∀ j, j < 8 → wr.cell? ⟨g, k * 8 + (k2 - 1) * 8 + j, none⟩ = some (.int .i64 (f (k + k2 - 1) j))) := fun j hj => by
                have := hJ.out.2.1.cell (i := k + k2 - 1) (j := j) (by omega) hj
                rw [hJ.out.1.2.2.2.2 _ (by omega) (by omega) j hj] at this
                rw [show k * 8 + (k2 - 1) * 8 + j = (k + k2 - 1) * 8 + j by omega]
                exact this
              have hskip := hide (fun hd => hJ.out.1.skip hlt2 hd)
              have hkeep : Hid (eqB (f (k + k2)) (f (k + k2 - 1)) = false → CompInv f n (k + k2 + 1) (kk + 1) (fun i j => if i = kk then f (k + k2) j else h i j)) := fun hd => hJ.out.1.keep hlt2 hd (fun j _ => by simp) (fun i hi j _ => by simp [hi])
              have hold : Hid (∀ j, j < 8 → wr.cell? ⟨g, kk * 8 + j, none⟩ = some (.int .i64 (h kk j))) := fun j hj => hJ.out.2.1.cell (by omega) hj
              have hfz : Hid (∀ j, wr.frozen? ⟨g, j, none⟩ = false) := fun j => hJ.out.2.1.frozen j
              generalize f (k + k2) = x at *
              generalize f (k + k2 - 1) = y at *
              have r0 : (wr).cell? ⟨g, k * 8 + k2 * 8, none⟩ = some (.int .i64 (x 0)) := hcl.out 0 (by omega)
              have r1 : (wr).cell? ⟨g, k * 8 + k2 * 8 + 1, none⟩ = some (.int .i64 (x 1)) := hcl.out 1 (by omega)
              have r2 : (wr).cell? ⟨g, k * 8 + k2 * 8 + 2, none⟩ = some (.int .i64 (x 2)) := hcl.out 2 (by omega)
              have r3 : (wr).cell? ⟨g, k * 8 + k2 * 8 + 3, none⟩ = some (.int .i64 (x 3)) := hcl.out 3 (by omega)
              have r4 : (wr).cell? ⟨g, k * 8 + k2 * 8 + 4, none⟩ = some (.int .i64 (x 4)) := hcl.out 4 (by omega)
              have r5 : (wr).cell? ⟨g, k * 8 + k2 * 8 + 5, none⟩ = some (.int .i64 (x 5)) := hcl.out 5 (by omega)
              have r6 : (wr).cell? ⟨g, k * 8 + k2 * 8 + 6, none⟩ = some (.int .i64 (x 6)) := hcl.out 6 (by omega)
              have r7 : (wr).cell? ⟨g, k * 8 + k2 * 8 + 7, none⟩ = some (.int .i64 (x 7)) := hcl.out 7 (by omega)
              have s0 : (wr).cell? ⟨g, k * 8 + (k2 - 1) * 8, none⟩ = some (.int .i64 (y 0)) := hcl'.out 0 (by omega)
              have s1 : (wr).cell? ⟨g, k * 8 + (k2 - 1) * 8 + 1, none⟩ = some (.int .i64 (y 1)) := hcl'.out 1 (by omega)
              have s2 : (wr).cell? ⟨g, k * 8 + (k2 - 1) * 8 + 2, none⟩ = some (.int .i64 (y 2)) := hcl'.out 2 (by omega)
              have s3 : (wr).cell? ⟨g, k * 8 + (k2 - 1) * 8 + 3, none⟩ = some (.int .i64 (y 3)) := hcl'.out 3 (by omega)
              have s4 : (wr).cell? ⟨g, k * 8 + (k2 - 1) * 8 + 4, none⟩ = some (.int .i64 (y 4)) := hcl'.out 4 (by omega)
              have s5 : (wr).cell? ⟨g, k * 8 + (k2 - 1) * 8 + 5, none⟩ = some (.int .i64 (y 5)) := hcl'.out 5 (by omega)
              have s6 : (wr).cell? ⟨g, k * 8 + (k2 - 1) * 8 + 6, none⟩ = some (.int .i64 (y 6)) := hcl'.out 6 (by omega)
              have s7 : (wr).cell? ⟨g, k * 8 + (k2 - 1) * 8 + 7, none⟩ = some (.int .i64 (y 7)) := hcl'.out 7 (by omega)
              have hq := fun W => run_eq_mono x y W
              have e1 : IntKind.i64.wrap ((k2 : Int) - 1) = (k2 : Int) - 1 := IntWalk.i64_in _ (by omega)
              have e2 : (0 : Int) ≤ (k2 : Int) - 1 := by omega
              have e2' : (1 : Int) ≤ (k2 : Int) := by omega
              have e3 : ((k2 : Int) - 1).toNat = k2 - 1 := by omega
              have e4 : (k2 : Int) - 1 < ((n - k : Nat) : Int) := by omega
              have hd2 : decide (k2 < n - k) = true := by simpa using hlt2'
              cases he : eqB x y with
              | true =>
                rw [he] at hq hskip
                go_wp2
                go_quiet (fail)
                clear e1 e2 e2' e3 e4
                go_wp2
                exact ⟨⟨kk, k2 + 1, h, by omega, by omega, by omega, rfl, by simp, hskip.out trivial, hJ.out.2.1.drewN _, hJ.out.2.2.drewN' _⟩, by simp [intOf]; omega⟩
              | false =>
                rw [he] at hq hkeep
                have o0 : (wr).cell? ⟨g, kk * 8, none⟩ = some (.int .i64 (h kk 0)) := hold.out 0 (by omega)
                have o1 : (wr).cell? ⟨g, kk * 8 + 1, none⟩ = some (.int .i64 (h kk 1)) := hold.out 1 (by omega)
                have o2 : (wr).cell? ⟨g, kk * 8 + 2, none⟩ = some (.int .i64 (h kk 2)) := hold.out 2 (by omega)
                have o3 : (wr).cell? ⟨g, kk * 8 + 3, none⟩ = some (.int .i64 (h kk 3)) := hold.out 3 (by omega)
                have o4 : (wr).cell? ⟨g, kk * 8 + 4, none⟩ = some (.int .i64 (h kk 4)) := hold.out 4 (by omega)
                have o5 : (wr).cell? ⟨g, kk * 8 + 5, none⟩ = some (.int .i64 (h kk 5)) := hold.out 5 (by omega)
                have o6 : (wr).cell? ⟨g, kk * 8 + 6, none⟩ = some (.int .i64 (h kk 6)) := hold.out 6 (by omega)
                have o7 : (wr).cell? ⟨g, kk * 8 + 7, none⟩ = some (.int .i64 (h kk 7)) := hold.out 7 (by omega)
                have z := hfz.out
                go_wp2
                go_quiet (fail)
                clear e1 e2 e2' e3 e4 hq s0 s1 s2 s3 s4 s5 s6 s7
                go_wp2
                refine ⟨⟨kk + 1, k2 + 1, _, by omega, by omega, by omega, by simp, by simp, hkeep.out trivial, ?_, ?_⟩, by simp [intOf]; omega⟩
                · exact (hJ.out.2.1.drewN nq).row8 (k := kk) (x := x) (by omega) (fun j _ => by simp) (fun i hi j _ => by simp [hi])
                · exact (hJ.out.2.2.drewN' nq).row8 (Nat.le_refl _) (kk * 8) x
            · have hend : k + k2 = n := by omega
              have hd2 : decide (k2 < n - k) = false := by simp; omega
              have hlen : Hid ((cmpTo f n).length = kk) := hide (by rw [hJ.out.1.1, hend])
              have hcl : ∀ ty, (Builtin.clear_ #[32] ty #[.slice (some ⟨g, kk * 8, none⟩) (n - kk) (c - kk)]).run Tryz.prog wr = .ok (.tuple #[]) (wr.setCells g (kk * 8) (List.replicate ((n - kk) * 8) (.int .i64 0))) := fun ty =>
                run_clear_monos wr ty g kk (n - kk) (c - kk) (by omega) (fun j hj => by
                  have := hJ.out.2.1.cell (i := kk + j / 8) (j := j % 8) (by omega) (by omega)
                  rw [show (kk + j / 8) * 8 + j % 8 = kk * 8 + j by omega] at this
                  rw [this]; rfl) (fun j => hJ.out.2.1.frozen j)
              have hgr : Hid (GridAt (wr.setCells g (kk * 8) (List.replicate ((n - kk) * 8) (.int .i64 0))) g c 36 kk (rowAt (cmpTo f n))) :=
                GridAt.setCells _ _ _ (Nat.le_refl _) ((hJ.out.2.1.less (by omega)).congr fun a b ha hb => by rw [hJ.out.1.2.2.2.1 a ha b hb, hend])
              have hbl : Hid (Below g w (wr.setCells g (kk * 8) (List.replicate ((n - kk) * 8) (.int .i64 0)))) := below_setCells (Nat.le_refl _) _ _ _ hJ.out.2.2
              go_wp2
              go_ret
              exact ⟨by rw [hlen.out]; rfl, by rw [hlen.out]; exact hgr.out, hbl.out⟩
        | false =>
          rw [he] at hq hst
          go_wp2
          go_quiet (fail)
          go_wp2
          exact ⟨⟨k + 1, by omega, hlt, by simp, hne.out he, hI.out.2.1.drewN _, hI.out.2.2.drewN' _⟩, by simp [intOf]; omega⟩
      · obtain rfl : k = n := by omega
        go_wp2
        go_ret
        exact ⟨by rw [(hall.out hI.out.1).1]; rfl, hfin.out hI.out.1 _ hI.out.2.1, hI.out.2.2⟩

end Go.Proofs.YteefhmdameeoaaaGreat
namespace Go.Proofs.YteefhmdameeoaaaGreat
open Go.RowKit Go.Sort

/-- Two rows are equal in their eight places. -/
def Eqv (a b : Nat → Int) : Prop := ∀ i, i < 8 → a i = b i
theorem Eqv.refl (a : Nat → Int) : Eqv a a := fun _ _ => rfl
theorem Eqv.symm {a b : Nat → Int} (h : Eqv a b) : Eqv b a := fun i hi => (h i hi).symm
theorem Eqv.trans {a b c : Nat → Int} (h : Eqv a b) (k : Eqv b c) : Eqv a c := fun i hi => (h i hi).trans (k i hi)
/-- The list S is L sorted by an order, without repetitions. -/
structure SortOf (R L S : List (Nat → Int)) : Prop where
  dec : ∀ i j, i < j → j < S.length → 0 < oCmp R (rowAt S i) (rowAt S j)
  sub : ∀ a ∈ S, ∃ b ∈ L, Eqv a b
  sup : ∀ b ∈ L, ∃ a ∈ S, Eqv a b
  len : S.length ≤ L.length
/-- The call returns the list sorted. -/
def RetSort (R L : List (Nat → Int)) (w : World) (e : Ending) (w' : World) : Prop := ∃ S, SortOf R L S ∧ RetMonos S w e w'

theorem rowsOf_rowAt (S : List (Nat → Int)) : rowsOf S.length (rowAt S) = S := by
  refine List.ext_getElem (by simp [rowsOf]) fun i h1 h2 => ?_
  simp [rowsOf, rowAt, List.getD_eq_getElem?_getD, List.getElem?_eq_getElem h2]
theorem cmpTo_sub (f : Nat → Nat → Int) : ∀ m, ∀ a ∈ cmpTo f m, ∃ i, i < m ∧ a = f i
  | 0, a, h => by simp [cmpTo] at h
  | m + 1, a, h => by
    rw [cmpTo] at h
    split at h
    · rcases List.mem_append.1 h with h | h
      · obtain ⟨i, h1, h2⟩ := cmpTo_sub f m a h; exact ⟨i, by omega, h2⟩
      · simp at h; exact ⟨m, by omega, h⟩
    · obtain ⟨i, h1, h2⟩ := cmpTo_sub f m a h; exact ⟨i, by omega, h2⟩
theorem cmpTo_sup (f : Nat → Nat → Int) : ∀ m i, i < m → ∃ a ∈ cmpTo f m, Eqv a (f i)
  | 0, i, h => by omega
  | m + 1, i, h => by
    rw [cmpTo]
    by_cases hm : m = 0 ∨ eqB (f m) (f (m - 1)) = false
    · rw [if_pos hm]
      by_cases e : i = m
      · exact ⟨f m, by simp, by rw [e]; exact Eqv.refl _⟩
      · obtain ⟨a, h1, h2⟩ := cmpTo_sup f m i (by omega); exact ⟨a, by simp [h1], h2⟩
    · rw [if_neg hm]
      by_cases e : i = m
      · have h2 : eqB (f m) (f (m - 1)) = true := by
          cases h3 : eqB (f m) (f (m - 1)) with
          | true => rfl
          | false => exact absurd (.inr h3) hm
        obtain ⟨a, h4, h5⟩ := cmpTo_sup f m (m - 1) (by omega)
        exact ⟨a, h4, by rw [e]; exact h5.trans (Eqv.symm (eqB_true.1 h2))⟩
      · exact cmpTo_sup f m i (by omega)
theorem eqB_false_of {a b : Nat → Int} (h : eqB a b = false) : ¬ Eqv a b := fun h' => by rw [eqB_true.2 h'] at h; cases h
/-- Of a sorted list the compacted one is strictly sorted. -/
theorem cmpTo_dec {R : List (Nat → Int)} {f : Nat → Nat → Int} {n : Nat} (hs : ∀ i j, i < j → j < n → 0 ≤ oCmp R (f i) (f j)) :
    ∀ m, m ≤ n → (∀ i j, i < j → j < (cmpTo f m).length → 0 < oCmp R (rowAt (cmpTo f m) i) (rowAt (cmpTo f m) j)) ∧ (∀ i, i < (cmpTo f m).length → 0 < m ∧ 0 ≤ oCmp R (rowAt (cmpTo f m) i) (f (m - 1)))
  | 0, _ => ⟨fun i j _ h => by simp [cmpTo] at h, fun i h => by simp [cmpTo] at h⟩
  | m + 1, hm => by
    obtain ⟨ih1, ih2⟩ := cmpTo_dec hs m (by omega)
    rw [cmpTo]
    by_cases hc : m = 0 ∨ eqB (f m) (f (m - 1)) = false
    · rw [if_pos hc]
      have key : ∀ i, i < (cmpTo f m).length → 0 < oCmp R (rowAt (cmpTo f m) i) (f m) := fun i hi => by
        obtain ⟨h0, h1⟩ := ih2 i hi
        have h2 := hs (m - 1) m (by omega) (by omega)
        rcases hc with rfl | hc
        · omega
        · have h3 : oCmp R (f (m - 1)) (f m) ≠ 0 := fun h => eqB_false_of hc (Eqv.symm (oCmp_zero.1 h))
          exact (oCmp_trans h1 h2).2 (.inr (by omega))
      refine ⟨fun i j hij hj => ?_, fun i hi => ⟨by omega, ?_⟩⟩
      · rw [List.length_append] at hj
        simp at hj
        by_cases e : j = (cmpTo f m).length
        · subst e; rw [rowAt_snoc, rowAt_append_left (by omega)]; exact key i hij
        · rw [rowAt_append_left (by omega), rowAt_append_left (by omega)]; exact ih1 i j hij (by omega)
      · rw [List.length_append] at hi
        simp at hi
        rw [Nat.add_sub_cancel]
        by_cases e : i = (cmpTo f m).length
        · subst e; rw [rowAt_snoc, oCmp_eq (fun _ _ => rfl)]; omega
        · rw [rowAt_append_left (by omega)]; have := key i (by omega); omega
    · rw [if_neg hc]
      refine ⟨ih1, fun i hi => ⟨by omega, ?_⟩⟩
      obtain ⟨h0, h1⟩ := ih2 i hi
      have h2 := hs (m - 1) m (by omega) (by omega)
      rw [Nat.add_sub_cancel]
      exact (oCmp_trans h1 h2).1

theorem sortOf_cmp {R L : List (Nat → Int)} {n : Nat} {f f' : Nat → B8} (hL : L.length = n) (hf : ∀ i, i < n → Eqv (f i).val (rowAt L i)) (hs : SortedRows R n f f') : SortOf R L (cmpTo (fun i => (f' i).val) n) := by
  obtain ⟨hp, hs⟩ := hs
  have hmem : ∀ x, x ∈ (List.range n).map f' ↔ x ∈ (List.range n).map f := fun x => hp.mem_iff
  refine ⟨(cmpTo_dec (f := fun i => (f' i).val) hs n (Nat.le_refl _)).1, fun a ha => ?_, fun b hb => ?_, by rw [hL]; exact cmpTo_len _ _⟩
  · obtain ⟨i, hi, rfl⟩ := cmpTo_sub _ _ a ha
    obtain ⟨k, hk, hkf⟩ := List.mem_map.1 ((hmem (f' i)).1 (List.mem_map.2 ⟨i, by simpa using hi, rfl⟩))
    have hk : k < n := by simpa using hk
    refine ⟨rowAt L k, rowAt_mem (by omega), ?_⟩
    show Eqv (f' i).val _
    rw [← hkf]; exact hf k hk
  · obtain ⟨k, hk, rfl⟩ := List.mem_iff_getElem.1 hb
    have e : rowAt L k = L[k] := by simp [rowAt, List.getD_eq_getElem?_getD, List.getElem?_eq_getElem hk]
    obtain ⟨i, hi, hif⟩ := List.mem_map.1 ((hmem (f k)).2 (List.mem_map.2 ⟨k, by simp; omega, rfl⟩))
    have hi : i < n := by simpa using hi
    obtain ⟨a, ha, hae⟩ := cmpTo_sup (fun i => (f' i).val) n i hi
    refine ⟨a, ha, hae.trans ?_⟩
    show Eqv (f' i).val _
    rw [hif, ← e]; exact hf k (by omega)

theorem SortFunc_none (A : Option Addr) (c : Nat) (fv : Value) (w : World) :
    Calls Tryz.prog 43 #[.slice A 0 c, fv] w fun e w' => e = .returned (.tuple #[]) ∧ w' = w :=
  AnyF.slices_SortFunc_none Tryz.sortMono A c fv w

set_option maxRecDepth 100000 in
theorem Compact_none (A : Option Addr) (c : Nat) (w : World) :
    Calls Tryz.prog 45 #[.slice A 0 c] w fun e w' => e = .returned (.slice A 0 c) ∧ w = w' := by
  go_enter Tryz.func45, Tryz.ntmps45
  go_wp2
  go_ret
  exact ⟨rfl, rfl⟩

/-- A row as one with bounds. -/
noncomputable def toB (a : Nat → Int) : B8 := open Classical in if h : In8 a (-1000000) 1000000 then ⟨a, h⟩ else default
theorem toB_val {a : Nat → Int} (h : In8 a (-1000000) 1000000) : (toB a).val = a := by simp [toB, h]

set_option maxRecDepth 100000 in
set_option maxHeartbeats 1600000 in
theorem Sort_any (v u : Value) (R L : List (Nat → Int)) (w : World) (h : RowsAt .i64 35 w v R) (hR : ∀ r ∈ R, In8 r (-1000) 1000) (hl : RowsAt .i64 36 w u L) (hL : ∀ r ∈ L, In8 r (-1000000) 1000000) (hn : L.length ≤ 1000000000) :
    Calls Tryz.prog 17 #[v, u] w (RetSort R L w) := by
  obtain ⟨A0, c0, rfl, hc0, hm0, hx0⟩ := h.open_
  have hvb : Hid (∀ b o m k, Value.slice A0 R.length c0 = .slice (some ⟨b, o, none⟩) m k → 0 < R.length → b < w.heap.size) := fun b o m k he hp => by
    obtain ⟨b', o', rfl, hb', _⟩ := hx0 hp
    cases he; exact hb'
  clear hc0 hm0 hx0
  have h1 := hide (h.ext ((Ext.refl w).alloc (.cells #[.slice A0 R.length c0] 30)))
  have hl1 := hide (hl.ext ((Ext.refl w).alloc (.cells #[.slice A0 R.length c0] 30)))
  have hB : Hid (Blk (w.alloc (.cells #[.slice A0 R.length c0] 30)) w.heap.size 30 #[.slice A0 R.length c0]) := Blk.new _ _ _
  have hE0 : Hid (Ext w (w.alloc (.cells #[.slice A0 R.length c0] 30))) := (Ext.refl w).alloc _
  have hs0 : Hid ((w.alloc (.cells #[.slice A0 R.length c0] 30)).heap.size = w.heap.size + 1) := hide (by simp)
  clear h hl
  replace hR := hide hR
  replace hL := hide hL
  go_enter Tryz.func17, Tryz.ntmps17
  go_wp2_with fail
  generalize (w.alloc (.cells #[.slice A0 R.length c0] 30)) = w0 at *
  refine (CloneM_any u L _ hl1.out hn).mono ?_
  rintro e w1 ⟨A, c, rfl, hO, hE1⟩
  have h2 := hide (h1.out.ext hE1)
  have hB1 := hide (hB.out.ext hE1)
  have hE2 := hide (hE0.out.trans hE1)
  replace hE1 := hide hE1
  clear h1 hl1 hB hE0
  by_cases h0 : L.length = 0
  · have e : L = [] := List.eq_nil_of_length_eq_zero h0
    subst e
    replace hO := hide hO
    go_wp2_with fail
    refine (SortFunc_none A c _ _).mono ?_
    rintro e w2 ⟨rfl, rfl⟩
    go_wp2_with fail
    refine (Compact_none A c _).mono ?_
    rintro e w3 ⟨rfl, rfl⟩
    go_wp2
    go_ret
    exact ⟨[], ⟨fun i j _ h => by simp at h, fun a h => by simp at h, fun a h => by simp at h, by simp⟩, A, c, rfl, hO.out.base_mono (by rw [hs0.out]; omega), hE2.out⟩
  · obtain ⟨g, rfl, hg, hG⟩ := (hO.grid rfl).at (by omega)
    rw [hs0.out] at hg
    have hG1 : GridAt w1 g c 36 L.length fun i => (toB (rowAt L i)).val := hG.congr fun a b ha hb => by rw [toB_val (hL.out _ (rowAt_mem ha))]
    have hbx : w1.cell? ⟨w.heap.size, 0, none⟩ = some (.slice A0 R.length c0) := hB1.out.cell 0
    replace hG1 := hide hG1
    clear hO hG
    go_wp2_with fail
    refine (SortFunc_any R (.slice A0 R.length c0) w.heap.size g c L.length (fun i => toB (rowAt L i)) w1 hbx (by omega) h2.out (fun b o m k he hr => ?_) hR.out hG1.out (by omega)).mono ?_
    · have := hvb.out b o m k he hr; omega
    rintro e w2 ⟨rfl, f', hS, hG2, hBe⟩
    have hSO := hide (sortOf_cmp (R := R) (L := L) rfl (fun i hi => by rw [toB_val (hL.out _ (rowAt_mem hi))]; exact Eqv.refl _) hS)
    have hE3 : Hid (Ext w w2) := ⟨hBe.os.trans hE2.out.os, hBe.tape.trans hE2.out.tape, hBe.output.trans hE2.out.output, Nat.le_trans hE2.out.size hBe.size, fun k hk => (hBe.block k (by omega)).trans (hE2.out.block hk)⟩
    replace hG2 := hide hG2
    clear hS hBe hbx hE2 hB1 h2 hG1
    go_wp2_with fail
    refine (Compact_any g c L.length (fun i => (f' i).val) _ hG2.out).mono ?_
    rintro e w3 ⟨rfl, hG3, hBe⟩
    have hE4 : Hid (Ext w w3) := ⟨hBe.os.trans hE3.out.os, hBe.tape.trans hE3.out.tape, hBe.output.trans hE3.out.output, Nat.le_trans hE3.out.size hBe.size, fun k hk => (hBe.block k (by omega)).trans (hE3.out.block hk)⟩
    generalize cmpTo (fun i => (f' i).val) L.length = S at *
    replace hG3 := hide hG3
    clear hBe
    go_wp2
    go_ret
    refine ⟨S, hSO.out, some ⟨g, 0, none⟩, c, rfl, ?_, hE4.out⟩
    have := hG3.out.own (base := w.heap.size) (by omega)
    rwa [rowsOf_rowAt] at this

end Go.Proofs.YteefhmdameeoaaaGreat
