/-
 The reference's Sort.
-/
import Derived.Test.YteefhmdameeoaaaGreatRefu
set_option linter.unusedSimpArgs false
set_option linter.unusedVariables false
namespace Go.Proofs.YteefhmdameeoaaaGreat
open Go.RowKit

theorem rowAt_take {S : List (Nat → Int)} {q i : Nat} (h : i < q) : rowAt (S.take q) i = rowAt S i := by
 unfold rowAt
 simp [List.getElem?_take, h]
theorem rowAt_drop (S : List (Nat → Int)) (q i : Nat) : rowAt (S.drop q) i = rowAt S (q + i) := by
 unfold rowAt
 simp [List.getElem?_drop]
/-- A new slice with one monomial. -/
def One (x : Nat → Int) (v : Value) (w : World) : Prop := ∃ b, v = .slice (some ⟨b, 0, none⟩) 1 1 ∧ Blk w b 36 (c8 x)
theorem One.ext {x : Nat → Int} {v : Value} {w w' : World} (h : One x v w) (he : Ext w w') : One x v w' := by
 obtain ⟨b, h1, h2⟩ := h
 exact ⟨b, h1, h2.ext he⟩
/-- A slice of monomials from a place on. -/
def TailAt (b o n c k : Nat) (v : Value) : Prop := ∃ o', v = .slice (some ⟨b, o', none⟩) (n - k) (c - k) ∧ (k < c → o' = o + k * 8)
def RestAt (S : List (Nat → Int)) (v : Value) (w : World) : Prop := ∃ A c, v = .slice A S.length c ∧ RowsAt .i64 36 w (.slice A S.length c) S
theorem RestAt.ext {S : List (Nat → Int)} {v : Value} {w w' : World} (h : RestAt S v w) (he : Ext w w') : RestAt S v w' := by
 obtain ⟨A, c, h1, h2⟩ := h
 exact ⟨A, c, h1, h2.ext he⟩
theorem append_rest {x : Nat → Int} {S : List (Nat → Int)} {v u : Value} {w : World} {b o n c q : Nat} (h1 : One x v w) (h2 : TailAt b o n c q u) (hcell : ∀ k j, k < S.length → j < 8 → w.cell? ⟨b, o + k * 8 + j, none⟩ = some (.int .i64 (rowAt S k j))) (hn : n = S.length) (hq : q ≤ n) (hnc : n ≤ c ∧ c ≤ 9223372036854775807) (h16 : n ≤ 100) :
  ∃ v' w', (Builtin.append_ #[32, 32] 32 #[v, u]).run Tryz.prog w = .ok v' w' ∧ Ext w w' ∧ RestAt (x :: S.drop q) v' w' := by
 obtain ⟨b1, rfl, hB⟩ := h1
 obtain ⟨o', rfl, ho⟩ := h2
 have hx : ∀ k j, k < [x].length → j < 8 → w.cell? ⟨b1, 0 + k * 8 + j, none⟩ = some (.int .i64 (rowAt [x] k j)) := fun k j hk hj => by
  obtain rfl : k = 0 := by simp at hk; omega
  rw [show 0 + 0 * 8 + j = j by omega]
  exact hB.at8 hj
 rcases Nat.lt_or_ge q n with hlt | hge
 ·obtain ⟨A, c', w', hrun, hO, hE⟩ := append_full (R := [x]) (S := S.drop q) (x := .slice (some ⟨b, o', none⟩) (n - q) (c - q)) hx ⟨_, _, by rw [List.length_drop, hn], by simp; omega, by omega, fun _ => ⟨b, o', rfl, World.block_lt_of_cell? w _ (hcell q 0 (by omega) (by omega)), fun k j hk hj => by
   rw [List.length_drop] at hk
   rw [ho (by omega), rowAt_drop, show o + q * 8 + k * 8 + j = o + (q + k) * 8 + j by omega]
   exact hcell (q + k) j (by omega) hj⟩⟩ (by rw [List.length_drop]; omega) (by rw [List.length_drop]; simp; omega) (Nat.le_trans (nextslicecap_le (by rw [List.length_drop]; simp; omega)) (by rw [List.length_drop]; simp; omega))
  exact ⟨_, w', hrun, hE, A, c', rfl, hO⟩
 ·obtain rfl : q = n := by omega
  obtain ⟨i, hi, hz0, hz1, hz2⟩ := info_parts (show (Tryz.prog.info? 36).map (fun i => (i.zero, i.size, i.bytes)) = some (some (.agg (c8 fun _ => 0)), 8, 64) by kernel_rfl)
  refine ⟨_, w, ?_, Ext.refl _, some ⟨b1, 0, none⟩, 1, rfl, ?_⟩
  ·rw [hn, List.drop_length, Nat.sub_self]
   exact run_append_nothing w _ _ _ _ i Tryz.underlying32 hi _ _ _ (Nat.le_refl _) _ (Src.ofSlice w Tryz.underlying32 _ _ _ [] (by simp) (by simp) (by simp))
  ·rw [hn, List.drop_length]
   exact ⟨_, _, rfl, by simp, by omega, fun _ => ⟨b1, 0, _, (0, 0), rfl, hB, fun k j hk hj => by
    obtain rfl : k = 0 := by simp at hk; omega
    rw [show 0 + 0 * 8 + j = j by omega]
    rcases lt8 hj with rfl | rfl | rfl | rfl | rfl | rfl | rfl | rfl <;> rfl⟩⟩
set_option maxRecDepth 100000 in
set_option maxHeartbeats 3200000 in
theorem RSort_any (v u : Value) (R L : List (Nat → Int)) (w : World) (h : RowsAt .i64 35 w v R) (hR : ∀ r ∈ R, In8 r (-1000) 1000) (hl : RowsAt .i64 36 w u L) (hL : ∀ r ∈ L, In8 r (-1000000) 1000000) (hn : L.length ≤ 8) :
  Calls Tryz.prog 18 #[v, u] w fun e w' => ∃ S, SortOf R L S ∧ ∃ A c, e = .returned (.slice A S.length c) ∧ RowsAt .i64 36 w' (.slice A S.length c) S ∧ Ext w w' := by
 obtain ⟨A0, c0, rfl, _, _, _⟩ := h.open_
 obtain ⟨Al, cl, rfl, _, _, hlx⟩ := hl.open_
 replace h := hide h
 replace hR := hide hR
 replace hl := hide hl
 replace hL := hide hL
 replace hlx := hide hlx
 have hB : Hid (RowsAt .i64 36 (w.alloc (.cells #[] 36)) (.slice (some ⟨w.heap.size, 0, none⟩) 0 0) [] ∧ Ext w (w.alloc (.cells #[] 36))) := ⟨⟨_, _, rfl, by simp, by omega, fun h => absurd h (by simp)⟩, (Ext.refl w).alloc _⟩
 go_enter Tryz.func18, Tryz.ntmps18
 go_wp2
 generalize (w.alloc (.cells #[] 36)) = w4 at *
 go_loopw [5, 6] (fun s i wr => ∃ (k n : Nat) (S : List (Nat → Int)) (gs os c : Nat), k ≤ L.length ∧ n = S.length ∧ i = .int .i64 k ∧ s = .slice (some ⟨gs, os, none⟩) n c ∧ Hid (SortOf R (L.take k) S ∧ RowsAt .i64 36 wr (.slice (some ⟨gs, os, none⟩) n c) S ∧ Ext w wr)) (fun _ i _ => L.length - (intOf i).toNat)
 case atStart => exact ⟨0, 0, [], _, _, _, by omega, rfl, rfl, rfl, SortOf.nil R, hB.out⟩
 case round =>
  clear hB
  obtain ⟨k, n, S, gs, os, c, hk, hnS, rfl, rfl, hI⟩ := hrel
  by_cases hlt : k < L.length
  ·have hdl : decide (k < L.length) = true := by simpa using hlt
   obtain ⟨gl, ol, rfl, hgl, hlcell⟩ := hlx.out (by omega)
   have hn16 : n ≤ 100 := by have := hI.out.1.len; simp at this; omega
   replace hnS := hide hnS
   obtain ⟨A3, c3, e3, hn1, hn2, hx3⟩ := hI.out.2.1.open_
   injection e3 with e4 e5 e6
   subst e6
   have hnc : Hid (n ≤ c ∧ c ≤ 9223372036854775807) := ⟨by rw [hnS.out]; exact hn1, hn2⟩
   have hScell : Hid (∀ w', Ext wr w' → ∀ i j, i < S.length → j < 8 → w'.cell? ⟨gs, os + i * 8 + j, none⟩ = some (.int .i64 (rowAt S i j))) := hide fun w' he i j hi hj => by
    obtain ⟨g2, o2, e7, _, hx⟩ := hx3 (by omega)
    rw [← e4] at e7
    cases e7
    exact he.cellv (hx i j hi hj)
   have hSb : Hid (∀ r ∈ S, In8 r (-1000000) 1000000) := fun r hr => by obtain ⟨b, hb, he⟩ := hI.out.1.sub r hr; exact fun i hi => by rw [he i hi]; exact hL.out b (List.mem_of_mem_take hb) i hi
   have htk := hide (take_append_row hlt)
   have hO := hide (h.out.ext hI.out.2.2)
   have hxB := hide (hL.out _ (rowAt_mem hlt))
   have x0 : Hid (wr.cell? ⟨gl, ol + k * 8, none⟩ = some (.int .i64 (rowAt L k 0))) := hI.out.2.2.cellv (hlcell k 0 hlt (by omega))
   have x1 : Hid (wr.cell? ⟨gl, ol + k * 8 + 1, none⟩ = some (.int .i64 (rowAt L k 1))) := hI.out.2.2.cellv (hlcell k 1 hlt (by omega))
   have x2 : Hid (wr.cell? ⟨gl, ol + k * 8 + 2, none⟩ = some (.int .i64 (rowAt L k 2))) := hI.out.2.2.cellv (hlcell k 2 hlt (by omega))
   have x3 : Hid (wr.cell? ⟨gl, ol + k * 8 + 3, none⟩ = some (.int .i64 (rowAt L k 3))) := hI.out.2.2.cellv (hlcell k 3 hlt (by omega))
   have x4 : Hid (wr.cell? ⟨gl, ol + k * 8 + 4, none⟩ = some (.int .i64 (rowAt L k 4))) := hI.out.2.2.cellv (hlcell k 4 hlt (by omega))
   have x5 : Hid (wr.cell? ⟨gl, ol + k * 8 + 5, none⟩ = some (.int .i64 (rowAt L k 5))) := hI.out.2.2.cellv (hlcell k 5 hlt (by omega))
   have x6 : Hid (wr.cell? ⟨gl, ol + k * 8 + 6, none⟩ = some (.int .i64 (rowAt L k 6))) := hI.out.2.2.cellv (hlcell k 6 hlt (by omega))
   have x7 : Hid (wr.cell? ⟨gl, ol + k * 8 + 7, none⟩ = some (.int .i64 (rowAt L k 7))) := hI.out.2.2.cellv (hlcell k 7 hlt (by omega))
   clear hx3 e4 e5 hn1 hn2 hgl hlcell
   generalize rowAt L k = x at *
   obtain ⟨wo, rfl⟩ : ∃ wo : World, wo = wr := ⟨_, rfl⟩
   go_wp2
   go_loopw [7] (fun t wr => ∃ q : Nat, q ≤ n ∧ t = .int .i64 q ∧ Hid ((∀ j, j < q → 0 < oCmp R (rowAt S j) x) ∧ Ext wo wr)) (fun t _ => n - (intOf t).toNat)
   case atStart => exact ⟨0, by omega, rfl, fun j hj => absurd hj (Nat.not_lt_zero _), Ext.refl _⟩
   case round =>
    obtain ⟨q, hqn, rfl, hJ⟩ := hrel
    have hE8 := hide hJ.out.2
    by_cases hlq : q < n
    ·have hdq : decide (q < n) = true := by simpa using hlq
     have hyB := hide (hSb.out _ (rowAt_mem (show q < S.length by rw [← hnS.out]; exact hlq)))
     have y0 : Hid (wo.cell? ⟨gs, os + q * 8, none⟩ = some (.int .i64 (rowAt S q 0))) := hScell.out _ (Ext.refl _) q 0 (by rw [← hnS.out]; exact hlq) (by omega)
     have y1 : Hid (wo.cell? ⟨gs, os + q * 8 + 1, none⟩ = some (.int .i64 (rowAt S q 1))) := hScell.out _ (Ext.refl _) q 1 (by rw [← hnS.out]; exact hlq) (by omega)
     have y2 : Hid (wo.cell? ⟨gs, os + q * 8 + 2, none⟩ = some (.int .i64 (rowAt S q 2))) := hScell.out _ (Ext.refl _) q 2 (by rw [← hnS.out]; exact hlq) (by omega)
     have y3 : Hid (wo.cell? ⟨gs, os + q * 8 + 3, none⟩ = some (.int .i64 (rowAt S q 3))) := hScell.out _ (Ext.refl _) q 3 (by rw [← hnS.out]; exact hlq) (by omega)
     have y4 : Hid (wo.cell? ⟨gs, os + q * 8 + 4, none⟩ = some (.int .i64 (rowAt S q 4))) := hScell.out _ (Ext.refl _) q 4 (by rw [← hnS.out]; exact hlq) (by omega)
     have y5 : Hid (wo.cell? ⟨gs, os + q * 8 + 5, none⟩ = some (.int .i64 (rowAt S q 5))) := hScell.out _ (Ext.refl _) q 5 (by rw [← hnS.out]; exact hlq) (by omega)
     have y6 : Hid (wo.cell? ⟨gs, os + q * 8 + 6, none⟩ = some (.int .i64 (rowAt S q 6))) := hScell.out _ (Ext.refl _) q 6 (by rw [← hnS.out]; exact hlq) (by omega)
     have y7 : Hid (wo.cell? ⟨gs, os + q * 8 + 7, none⟩ = some (.int .i64 (rowAt S q 7))) := hScell.out _ (Ext.refl _) q 7 (by rw [← hnS.out]; exact hlq) (by omega)
     rcases oCmp_val R (rowAt S q) x with hcmp | hcmp | hcmp
     ·have hins : Hid (SortOf R (L.take (k + 1)) (S.take q ++ x :: S.drop q)) := by
       rw [← htk.out]
       exact hI.out.1.ins (by rw [← hnS.out]; omega) hJ.out.1 (fun _ => by rw [oCmp_neg, hcmp]; decide)
      have heq : Hid (∀ W, (Op.equalIn 10000 36 (.agg #[.int .i64 (rowAt S q 0), .int .i64 (rowAt S q 1), .int .i64 (rowAt S q 2), .int .i64 (rowAt S q 3), .int .i64 (rowAt S q 4), .int .i64 (rowAt S q 5), .int .i64 (rowAt S q 6), .int .i64 (rowAt S q 7)]) (.agg #[.int .i64 (x 0), .int .i64 (x 1), .int .i64 (x 2), .int .i64 (x 3), .int .i64 (x 4), .int .i64 (x 5), .int .i64 (x 6), .int .i64 (x 7)])).run Tryz.prog W = .ok false W) := hide fun W => by
       rw [run_eq_mono, show eqB (rowAt S q) x = false from Bool.eq_false_iff.2 fun h => by have := oCmp_zero (R := R).2 (eqB_true.1 h); omega]
      replace hcmp := hide hcmp
      clear htk hJ
      generalize rowAt S q = y at *
      go_upto_region 6 with (fail)
      have i1 : (q : Int) < n := by omega
      have i2 : (k : Int) < L.length := by omega
      refine wp_region_v (by kernel_rfl) [[], [], [(17, 1)], [(16, 0), (18, 2)], [(19, 3)], [], [], [], [(22, 6), (23, 7)], [(24, 8)], [], [], [(26, 10), (27, 11)], [(28, 12)], [(21, 5), (25, 9), (29, 13)], [(30, 14)], [(20, 4), (31, 15)]] [[], [], [1], [0, 1, 2], [0, 1, 2, 3], [0, 1, 2, 3, 4], [0, 1, 2, 3, 4], [0, 1, 2, 3, 4], [0, 1, 2, 3, 4, 6, 7], [0, 1, 2, 3, 4, 6, 7, 8], [0, 1, 2, 3, 4], [0, 1, 2, 3, 4], [0, 1, 2, 3, 4, 10, 11], [0, 1, 2, 3, 4, 10, 11, 12], [0, 1, 2, 3, 4, 5, 6, 7, 8, 9, 10, 11, 12, 13], [0, 1, 2, 3, 4, 5, 6, 7, 8, 9, 10, 11, 12, 13, 14], [0, 1, 2, 3, 4, 5, 6, 7, 8, 9, 10, 11, 12, 13, 14, 15]]
       [fun v _ => v = .int .i64 (q : Int), fun v _ => v = .slice (some ⟨gs, os, none⟩) n c, fun v _ => v = .int .i64 (n : Int), fun v _ => v = .bool true, fun v _ => v = .bool true, fun v _ => v = .slice A0 R.length c0, fun v _ => v = .slice (some ⟨gs, os, none⟩) n c, fun v _ => v = .int .i64 (q : Int), fun v _ => v = .pointer (some ⟨gs, os + q * 8, none⟩), fun v _ => v = .agg #[.int .i64 (y 0), .int .i64 (y 1), .int .i64 (y 2), .int .i64 (y 3), .int .i64 (y 4), .int .i64 (y 5), .int .i64 (y 6), .int .i64 (y 7)], fun v _ => v = .slice (some ⟨gl, ol, none⟩) L.length cl, fun v _ => v = .int .i64 (k : Int), fun v _ => v = .pointer (some ⟨gl, ol + k * 8, none⟩), fun v _ => v = .agg #[.int .i64 (x 0), .int .i64 (x 1), .int .i64 (x 2), .int .i64 (x 3), .int .i64 (x 4), .int .i64 (x 5), .int .i64 (x 6), .int .i64 (x 7)], fun v _ => v = .int .i64 (-1), fun v _ => v = .bool false, fun v _ => v = .bool false]
       rfl (by kernel_rfl) (by kernel_rfl) ?stab ?steps ?fin
      case stab => exact .cons (Stab.eq _) (.cons (Stab.eq _) (.cons (Stab.eq _) (.cons (Stab.eq _) (.cons (Stab.eq _) (.cons (Stab.eq _) (.cons (Stab.eq _) (.cons (Stab.eq _) (.cons (Stab.eq _) (.cons (Stab.eq _) (.cons (Stab.eq _) (.cons (Stab.eq _) (.cons (Stab.eq _) (.cons (Stab.eq _) (.cons (Stab.eq _) (.cons (Stab.eq _) (.cons (Stab.eq _) .nil))))))))))))))))
      case steps =>
       refine .cons ?s0 (.cons ?s1 (.cons ?s2 (.cons ?s3 (.cons ?s4 (.cons ?s5 (.cons ?s6 (.cons ?s7 (.cons ?s8 (.cons ?s9 (.cons ?s10 (.cons ?s11 (.cons ?s12 (.cons ?s13 (.cons ?s14 (.cons ?s15 (.cons ?s16 .nil))))))))))))))))
       case s0 =>
        intro w' ev hE hk ha hc hf
        have e7 : ev (.tmp 7) = .int .i64 (q : Int) := ha 7 (by decide)
        exact opStep_val (by simp [execOp, e7, go_sem]) rfl
       case s1 =>
        intro w' ev hE hk ha hc hf
        have e5 : ev (.tmp 5) = .slice (some ⟨gs, os, none⟩) n c := ha 5 (by decide)
        exact opStep_val (by simp [execOp, e5, go_sem]) rfl
       case s2 =>
        intro w' ev hE hk ha hc hf
        have e17 : ev (.tmp 17) = .slice (some ⟨gs, os, none⟩) n c := hk.1 _ rfl
        exact opStep_val (by simp [execOp, e17, go_sem]) rfl
       case s3 =>
        intro w' ev hE hk ha hc hf
        have e16 : ev (.tmp 16) = .int .i64 (q : Int) := hk.1 _ rfl
        have e18 : ev (.tmp 18) = .int .i64 (n : Int) := hk.2.1 _ rfl
        exact opStep_val (by simp [execOp, e16, e18, i1, go_sem]) rfl
       case s4 =>
        intro w' ev hE hk ha hc hf
        have e19 : ev (.tmp 19) = .bool true := hk.1 _ rfl
        exact opStep_val (by simp [execOp, e19, go_sem]) rfl
       case s5 =>
        intro w' ev hE hk ha hc hf
        intro gv hg
        have hgv := hg _ rfl
        refine ⟨fun hgt => ?_, fun hgf => ?_⟩
        ·skip
         have e0 : ev (.tmp 0) = .slice A0 R.length c0 := ha 0 (by decide)
         exact opStep_val (by simp [execOp, e0, go_sem]) rfl
        ·exact absurd hgv hgf
       case s6 =>
        intro w' ev hE hk ha hc hf
        intro gv hg
        have hgv := hg _ rfl
        refine ⟨fun hgt => ?_, fun hgf => ?_⟩
        ·skip
         have e5 : ev (.tmp 5) = .slice (some ⟨gs, os, none⟩) n c := ha 5 (by decide)
         exact opStep_val (by simp [execOp, e5, go_sem]) rfl
        ·exact absurd hgv hgf
       case s7 =>
        intro w' ev hE hk ha hc hf
        intro gv hg
        have hgv := hg _ rfl
        refine ⟨fun hgt => ?_, fun hgf => ?_⟩
        ·skip
         have e7 : ev (.tmp 7) = .int .i64 (q : Int) := ha 7 (by decide)
         exact opStep_val (by simp [execOp, e7, go_sem]) rfl
        ·exact absurd hgv hgf
       case s8 =>
        intro w' ev hE hk ha hc hf
        intro gv hg
        have hgv := hg _ rfl
        refine ⟨fun hgt => ?_, fun hgf => ?_⟩
        ·skip
         have e22 : ev (.tmp 22) = .slice (some ⟨gs, os, none⟩) n c := hk.1 _ rfl
         have e23 : ev (.tmp 23) = .int .i64 (q : Int) := hk.2.1 _ rfl
         exact opStep_val (by simp [execOp, e22, e23, i1, go_sem]) rfl
        ·exact absurd hgv hgf
       case s9 =>
        intro w' ev hE hk ha hc hf
        intro gv hg
        have hgv := hg _ rfl
        refine ⟨fun hgt => ?_, fun hgf => ?_⟩
        ·skip
         have e24 : ev (.tmp 24) = .pointer (some ⟨gs, os + q * 8, none⟩) := hk.1 _ rfl
         have c0 : w'.cell? ⟨gs, os + q * 8, none⟩ = some (.int .i64 (y 0)) := hE.cellv (hE8.out.cellv y0.out)
         have c1 : w'.cell? ⟨gs, os + q * 8 + 1, none⟩ = some (.int .i64 (y 1)) := hE.cellv (hE8.out.cellv y1.out)
         have c2 : w'.cell? ⟨gs, os + q * 8 + 2, none⟩ = some (.int .i64 (y 2)) := hE.cellv (hE8.out.cellv y2.out)
         have c3 : w'.cell? ⟨gs, os + q * 8 + 3, none⟩ = some (.int .i64 (y 3)) := hE.cellv (hE8.out.cellv y3.out)
         have c4 : w'.cell? ⟨gs, os + q * 8 + 4, none⟩ = some (.int .i64 (y 4)) := hE.cellv (hE8.out.cellv y4.out)
         have c5 : w'.cell? ⟨gs, os + q * 8 + 5, none⟩ = some (.int .i64 (y 5)) := hE.cellv (hE8.out.cellv y5.out)
         have c6 : w'.cell? ⟨gs, os + q * 8 + 6, none⟩ = some (.int .i64 (y 6)) := hE.cellv (hE8.out.cellv y6.out)
         have c7 : w'.cell? ⟨gs, os + q * 8 + 7, none⟩ = some (.int .i64 (y 7)) := hE.cellv (hE8.out.cellv y7.out)
         exact opStep_val (by simp [execOp, e24, c0, c1, c2, c3, c4, c5, c6, c7, go_sem]) rfl
        ·exact absurd hgv hgf
       case s10 =>
        intro w' ev hE hk ha hc hf
        intro gv hg
        have hgv := hg _ rfl
        refine ⟨fun hgt => ?_, fun hgf => ?_⟩
        ·skip
         have e1 : ev (.tmp 1) = .slice (some ⟨gl, ol, none⟩) L.length cl := ha 1 (by decide)
         exact opStep_val (by simp [execOp, e1, go_sem]) rfl
        ·exact absurd hgv hgf
       case s11 =>
        intro w' ev hE hk ha hc hf
        intro gv hg
        have hgv := hg _ rfl
        refine ⟨fun hgt => ?_, fun hgf => ?_⟩
        ·skip
         have e6 : ev (.tmp 6) = .int .i64 (k : Int) := ha 6 (by decide)
         exact opStep_val (by simp [execOp, e6, go_sem]) rfl
        ·exact absurd hgv hgf
       case s12 =>
        intro w' ev hE hk ha hc hf
        intro gv hg
        have hgv := hg _ rfl
        refine ⟨fun hgt => ?_, fun hgf => ?_⟩
        ·skip
         have e26 : ev (.tmp 26) = .slice (some ⟨gl, ol, none⟩) L.length cl := hk.1 _ rfl
         have e27 : ev (.tmp 27) = .int .i64 (k : Int) := hk.2.1 _ rfl
         exact opStep_val (by simp [execOp, e26, e27, i2, go_sem]) rfl
        ·exact absurd hgv hgf
       case s13 =>
        intro w' ev hE hk ha hc hf
        intro gv hg
        have hgv := hg _ rfl
        refine ⟨fun hgt => ?_, fun hgf => ?_⟩
        ·skip
         have e28 : ev (.tmp 28) = .pointer (some ⟨gl, ol + k * 8, none⟩) := hk.1 _ rfl
         have c0 : w'.cell? ⟨gl, ol + k * 8, none⟩ = some (.int .i64 (x 0)) := hE.cellv (hE8.out.cellv x0.out)
         have c1 : w'.cell? ⟨gl, ol + k * 8 + 1, none⟩ = some (.int .i64 (x 1)) := hE.cellv (hE8.out.cellv x1.out)
         have c2 : w'.cell? ⟨gl, ol + k * 8 + 2, none⟩ = some (.int .i64 (x 2)) := hE.cellv (hE8.out.cellv x2.out)
         have c3 : w'.cell? ⟨gl, ol + k * 8 + 3, none⟩ = some (.int .i64 (x 3)) := hE.cellv (hE8.out.cellv x3.out)
         have c4 : w'.cell? ⟨gl, ol + k * 8 + 4, none⟩ = some (.int .i64 (x 4)) := hE.cellv (hE8.out.cellv x4.out)
         have c5 : w'.cell? ⟨gl, ol + k * 8 + 5, none⟩ = some (.int .i64 (x 5)) := hE.cellv (hE8.out.cellv x5.out)
         have c6 : w'.cell? ⟨gl, ol + k * 8 + 6, none⟩ = some (.int .i64 (x 6)) := hE.cellv (hE8.out.cellv x6.out)
         have c7 : w'.cell? ⟨gl, ol + k * 8 + 7, none⟩ = some (.int .i64 (x 7)) := hE.cellv (hE8.out.cellv x7.out)
         exact opStep_val (by simp [execOp, e28, c0, c1, c2, c3, c4, c5, c6, c7, go_sem]) rfl
        ·exact absurd hgv hgf
       case s14 =>
        intro w' ev hE hk ha hc hf
        intro gv hg
        have hgv := hg _ rfl
        refine ⟨fun hgt => ?_, fun hgf => ?_⟩
        ·skip
         have e21 : ev (.tmp 21) = .slice A0 R.length c0 := hk.1 _ rfl
         have e25 : ev (.tmp 25) = .agg #[.int .i64 (y 0), .int .i64 (y 1), .int .i64 (y 2), .int .i64 (y 3), .int .i64 (y 4), .int .i64 (y 5), .int .i64 (y 6), .int .i64 (y 7)] := hk.2.1 _ rfl
         have e29 : ev (.tmp 29) = .agg #[.int .i64 (x 0), .int .i64 (x 1), .int .i64 (x 2), .int .i64 (x 3), .int .i64 (x 4), .int .i64 (x 5), .int .i64 (x 6), .int .i64 (x 7)] := hk.2.2.1 _ rfl
         refine opStep_call (by simp [execOp, resolve, invoke, hf, e21, e25, e29, go_sem]) (RCmp_any _ R y x _ (hO.out.ext (hE8.out.trans ((Ext.refl _).drew.trans hE))) hR.out hyB.out hxB.out) ?_
         rintro e w1 ⟨rfl, hE1⟩
         exact ⟨_, rfl, hE1, by rw [hcmp.out]⟩
        ·exact absurd hgv hgf
       case s15 =>
        intro w' ev hE hk ha hc hf
        intro gv hg
        have hgv := hg _ rfl
        refine ⟨fun hgt => ?_, fun hgf => ?_⟩
        ·skip
         have e30 : ev (.tmp 30) = .int .i64 (-1) := hk.1 _ rfl
         exact opStep_val (by simp [execOp, e30, hc, go_sem]) rfl
        ·exact absurd hgv hgf
       case s16 =>
        intro w' ev hE hk ha hc hf
        have e20 : ev (.tmp 20) = .bool true := hk.1 _ rfl
        have e31 : ev (.tmp 31) = .bool false := hk.2.1 _ rfl
        exact opStep_val (by simp [execOp, e20, e31, hc, go_sem]) rfl
      case fin =>
       intro gf w' hE hF
       have e16 := hF 16 _ rfl
       simp only [List.length_cons, List.length_nil, Nat.reduceAdd, List.drop_succ_cons, List.drop_zero, List.take_succ_cons, List.take_zero, putG, Act.put, List.setIfInBounds_toArray, List.set_cons_succ, List.set_cons_zero, e16]
       replace hE8 := hide (hE8.out.trans ((Ext.refl _).drew.trans hE))
       clear hF e16 hE i1 i2
       go_upto_region 8 with (fail)
       have i1 : (q : Int) < n := by omega
       have i2 : (k : Int) < L.length := by omega
       refine wp_region_v (by kernel_rfl) [[], [], [(36, 1)], [(35, 0), (37, 2)], [(38, 3)], [], [], [(40, 5), (41, 6)], [(42, 7)], [], [], [(44, 9), (45, 10)], [(46, 11)], [(43, 8), (47, 12)], [(39, 4), (48, 13)]] [[], [], [1], [0, 1, 2], [0, 1, 2, 3], [0, 1, 2, 3, 4], [0, 1, 2, 3, 4], [0, 1, 2, 3, 4, 5, 6], [0, 1, 2, 3, 4, 5, 6, 7], [0, 1, 2, 3, 4], [0, 1, 2, 3, 4], [0, 1, 2, 3, 4, 9, 10], [0, 1, 2, 3, 4, 9, 10, 11], [0, 1, 2, 3, 4, 5, 6, 7, 8, 9, 10, 11, 12], [0, 1, 2, 3, 4, 5, 6, 7, 8, 9, 10, 11, 12, 13]]
        [fun v _ => v = .int .i64 (q : Int), fun v _ => v = .slice (some ⟨gs, os, none⟩) n c, fun v _ => v = .int .i64 (n : Int), fun v _ => v = .bool true, fun v _ => v = .bool true, fun v _ => v = .slice (some ⟨gs, os, none⟩) n c, fun v _ => v = .int .i64 (q : Int), fun v _ => v = .pointer (some ⟨gs, os + q * 8, none⟩), fun v _ => v = .agg #[.int .i64 (y 0), .int .i64 (y 1), .int .i64 (y 2), .int .i64 (y 3), .int .i64 (y 4), .int .i64 (y 5), .int .i64 (y 6), .int .i64 (y 7)], fun v _ => v = .slice (some ⟨gl, ol, none⟩) L.length cl, fun v _ => v = .int .i64 (k : Int), fun v _ => v = .pointer (some ⟨gl, ol + k * 8, none⟩), fun v _ => v = .agg #[.int .i64 (x 0), .int .i64 (x 1), .int .i64 (x 2), .int .i64 (x 3), .int .i64 (x 4), .int .i64 (x 5), .int .i64 (x 6), .int .i64 (x 7)], fun v _ => v = .bool false, fun v _ => v = .bool false]
        rfl (by kernel_rfl) (by kernel_rfl) ?stab ?steps ?fin
       case stab => exact .cons (Stab.eq _) (.cons (Stab.eq _) (.cons (Stab.eq _) (.cons (Stab.eq _) (.cons (Stab.eq _) (.cons (Stab.eq _) (.cons (Stab.eq _) (.cons (Stab.eq _) (.cons (Stab.eq _) (.cons (Stab.eq _) (.cons (Stab.eq _) (.cons (Stab.eq _) (.cons (Stab.eq _) (.cons (Stab.eq _) (.cons (Stab.eq _) .nil))))))))))))))
       case steps =>
        refine .cons ?s0 (.cons ?s1 (.cons ?s2 (.cons ?s3 (.cons ?s4 (.cons ?s5 (.cons ?s6 (.cons ?s7 (.cons ?s8 (.cons ?s9 (.cons ?s10 (.cons ?s11 (.cons ?s12 (.cons ?s13 (.cons ?s14 .nil))))))))))))))
        case s0 =>
         intro w' ev hE hk ha hc hf
         have e7 : ev (.tmp 7) = .int .i64 (q : Int) := ha 7 (by decide)
         exact opStep_val (by simp [execOp, e7, go_sem]) rfl
        case s1 =>
         intro w' ev hE hk ha hc hf
         have e5 : ev (.tmp 5) = .slice (some ⟨gs, os, none⟩) n c := ha 5 (by decide)
         exact opStep_val (by simp [execOp, e5, go_sem]) rfl
        case s2 =>
         intro w' ev hE hk ha hc hf
         have e36 : ev (.tmp 36) = .slice (some ⟨gs, os, none⟩) n c := hk.1 _ rfl
         exact opStep_val (by simp [execOp, e36, go_sem]) rfl
        case s3 =>
         intro w' ev hE hk ha hc hf
         have e35 : ev (.tmp 35) = .int .i64 (q : Int) := hk.1 _ rfl
         have e37 : ev (.tmp 37) = .int .i64 (n : Int) := hk.2.1 _ rfl
         exact opStep_val (by simp [execOp, e35, e37, i1, go_sem]) rfl
        case s4 =>
         intro w' ev hE hk ha hc hf
         have e38 : ev (.tmp 38) = .bool true := hk.1 _ rfl
         exact opStep_val (by simp [execOp, e38, go_sem]) rfl
        case s5 =>
         intro w' ev hE hk ha hc hf
         intro gv hg
         have hgv := hg _ rfl
         refine ⟨fun hgt => ?_, fun hgf => ?_⟩
         ·skip
          have e5 : ev (.tmp 5) = .slice (some ⟨gs, os, none⟩) n c := ha 5 (by decide)
          exact opStep_val (by simp [execOp, e5, go_sem]) rfl
         ·exact absurd hgv hgf
        case s6 =>
         intro w' ev hE hk ha hc hf
         intro gv hg
         have hgv := hg _ rfl
         refine ⟨fun hgt => ?_, fun hgf => ?_⟩
         ·skip
          have e7 : ev (.tmp 7) = .int .i64 (q : Int) := ha 7 (by decide)
          exact opStep_val (by simp [execOp, e7, go_sem]) rfl
         ·exact absurd hgv hgf
        case s7 =>
         intro w' ev hE hk ha hc hf
         intro gv hg
         have hgv := hg _ rfl
         refine ⟨fun hgt => ?_, fun hgf => ?_⟩
         ·skip
          have e40 : ev (.tmp 40) = .slice (some ⟨gs, os, none⟩) n c := hk.1 _ rfl
          have e41 : ev (.tmp 41) = .int .i64 (q : Int) := hk.2.1 _ rfl
          exact opStep_val (by simp [execOp, e40, e41, i1, go_sem]) rfl
         ·exact absurd hgv hgf
        case s8 =>
         intro w' ev hE hk ha hc hf
         intro gv hg
         have hgv := hg _ rfl
         refine ⟨fun hgt => ?_, fun hgf => ?_⟩
         ·skip
          have e42 : ev (.tmp 42) = .pointer (some ⟨gs, os + q * 8, none⟩) := hk.1 _ rfl
          have c0 : w'.cell? ⟨gs, os + q * 8, none⟩ = some (.int .i64 (y 0)) := hE.cellv (hE8.out.cellv y0.out)
          have c1 : w'.cell? ⟨gs, os + q * 8 + 1, none⟩ = some (.int .i64 (y 1)) := hE.cellv (hE8.out.cellv y1.out)
          have c2 : w'.cell? ⟨gs, os + q * 8 + 2, none⟩ = some (.int .i64 (y 2)) := hE.cellv (hE8.out.cellv y2.out)
          have c3 : w'.cell? ⟨gs, os + q * 8 + 3, none⟩ = some (.int .i64 (y 3)) := hE.cellv (hE8.out.cellv y3.out)
          have c4 : w'.cell? ⟨gs, os + q * 8 + 4, none⟩ = some (.int .i64 (y 4)) := hE.cellv (hE8.out.cellv y4.out)
          have c5 : w'.cell? ⟨gs, os + q * 8 + 5, none⟩ = some (.int .i64 (y 5)) := hE.cellv (hE8.out.cellv y5.out)
          have c6 : w'.cell? ⟨gs, os + q * 8 + 6, none⟩ = some (.int .i64 (y 6)) := hE.cellv (hE8.out.cellv y6.out)
          have c7 : w'.cell? ⟨gs, os + q * 8 + 7, none⟩ = some (.int .i64 (y 7)) := hE.cellv (hE8.out.cellv y7.out)
          exact opStep_val (by simp [execOp, e42, c0, c1, c2, c3, c4, c5, c6, c7, go_sem]) rfl
         ·exact absurd hgv hgf
        case s9 =>
         intro w' ev hE hk ha hc hf
         intro gv hg
         have hgv := hg _ rfl
         refine ⟨fun hgt => ?_, fun hgf => ?_⟩
         ·skip
          have e1 : ev (.tmp 1) = .slice (some ⟨gl, ol, none⟩) L.length cl := ha 1 (by decide)
          exact opStep_val (by simp [execOp, e1, go_sem]) rfl
         ·exact absurd hgv hgf
        case s10 =>
         intro w' ev hE hk ha hc hf
         intro gv hg
         have hgv := hg _ rfl
         refine ⟨fun hgt => ?_, fun hgf => ?_⟩
         ·skip
          have e6 : ev (.tmp 6) = .int .i64 (k : Int) := ha 6 (by decide)
          exact opStep_val (by simp [execOp, e6, go_sem]) rfl
         ·exact absurd hgv hgf
        case s11 =>
         intro w' ev hE hk ha hc hf
         intro gv hg
         have hgv := hg _ rfl
         refine ⟨fun hgt => ?_, fun hgf => ?_⟩
         ·skip
          have e44 : ev (.tmp 44) = .slice (some ⟨gl, ol, none⟩) L.length cl := hk.1 _ rfl
          have e45 : ev (.tmp 45) = .int .i64 (k : Int) := hk.2.1 _ rfl
          exact opStep_val (by simp [execOp, e44, e45, i2, go_sem]) rfl
         ·exact absurd hgv hgf
        case s12 =>
         intro w' ev hE hk ha hc hf
         intro gv hg
         have hgv := hg _ rfl
         refine ⟨fun hgt => ?_, fun hgf => ?_⟩
         ·skip
          have e46 : ev (.tmp 46) = .pointer (some ⟨gl, ol + k * 8, none⟩) := hk.1 _ rfl
          have c0 : w'.cell? ⟨gl, ol + k * 8, none⟩ = some (.int .i64 (x 0)) := hE.cellv (hE8.out.cellv x0.out)
          have c1 : w'.cell? ⟨gl, ol + k * 8 + 1, none⟩ = some (.int .i64 (x 1)) := hE.cellv (hE8.out.cellv x1.out)
          have c2 : w'.cell? ⟨gl, ol + k * 8 + 2, none⟩ = some (.int .i64 (x 2)) := hE.cellv (hE8.out.cellv x2.out)
          have c3 : w'.cell? ⟨gl, ol + k * 8 + 3, none⟩ = some (.int .i64 (x 3)) := hE.cellv (hE8.out.cellv x3.out)
          have c4 : w'.cell? ⟨gl, ol + k * 8 + 4, none⟩ = some (.int .i64 (x 4)) := hE.cellv (hE8.out.cellv x4.out)
          have c5 : w'.cell? ⟨gl, ol + k * 8 + 5, none⟩ = some (.int .i64 (x 5)) := hE.cellv (hE8.out.cellv x5.out)
          have c6 : w'.cell? ⟨gl, ol + k * 8 + 6, none⟩ = some (.int .i64 (x 6)) := hE.cellv (hE8.out.cellv x6.out)
          have c7 : w'.cell? ⟨gl, ol + k * 8 + 7, none⟩ = some (.int .i64 (x 7)) := hE.cellv (hE8.out.cellv x7.out)
          exact opStep_val (by simp [execOp, e46, c0, c1, c2, c3, c4, c5, c6, c7, go_sem]) rfl
         ·exact absurd hgv hgf
        case s13 =>
         intro w' ev hE hk ha hc hf
         intro gv hg
         have hgv := hg _ rfl
         refine ⟨fun hgt => ?_, fun hgf => ?_⟩
         ·skip
          have e43 : ev (.tmp 43) = .agg #[.int .i64 (y 0), .int .i64 (y 1), .int .i64 (y 2), .int .i64 (y 3), .int .i64 (y 4), .int .i64 (y 5), .int .i64 (y 6), .int .i64 (y 7)] := hk.1 _ rfl
          have e47 : ev (.tmp 47) = .agg #[.int .i64 (x 0), .int .i64 (x 1), .int .i64 (x 2), .int .i64 (x 3), .int .i64 (x 4), .int .i64 (x 5), .int .i64 (x 6), .int .i64 (x 7)] := hk.2.1 _ rfl
          have hq := heq.out
          exact opStep_val (by simp [execOp, e43, e47, hq, go_sem]) rfl
         ·exact absurd hgv hgf
        case s14 =>
         intro w' ev hE hk ha hc hf
         have e39 : ev (.tmp 39) = .bool true := hk.1 _ rfl
         have e48 : ev (.tmp 48) = .bool false := hk.2.1 _ rfl
         exact opStep_val (by simp [execOp, e39, e48, hc, go_sem]) rfl
       case fin =>
        intro gf w' hE hF
        have e14 := hF 14 _ rfl
        simp only [List.length_cons, List.length_nil, Nat.reduceAdd, List.drop_succ_cons, List.drop_zero, List.take_succ_cons, List.take_zero, putG, Act.put, List.setIfInBounds_toArray, List.set_cons_succ, List.set_cons_zero, e14]
        replace hE8 := hide (hE8.out.trans ((Ext.refl _).drew.trans hE))
        clear hF e14 hE i1 i2
        go_upto_region 9 with (fail)
        have i2 : (k : Int) < L.length := by omega
        have j1 : q ≤ n := by omega
        have j2 : (q : Int) ≤ n := by omega
        refine wp_region_v (by kernel_rfl) [[], [], [(50, 0), (51, 1)], [(52, 2)], [(53, 3)], [], [], [(55, 5), (56, 6)], [(54, 4), (57, 7)]] [[], [], [0, 1], [0, 1, 2], [0, 1, 2, 3], [], [], [5, 6], [0, 1, 2, 3, 4, 5, 6, 7]]
         [fun v _ => v = .slice (some ⟨gl, ol, none⟩) L.length cl, fun v _ => v = .int .i64 (k : Int), fun v _ => v = .pointer (some ⟨gl, ol + k * 8, none⟩), fun v _ => v = .agg #[.int .i64 (x 0), .int .i64 (x 1), .int .i64 (x 2), .int .i64 (x 3), .int .i64 (x 4), .int .i64 (x 5), .int .i64 (x 6), .int .i64 (x 7)], fun v w' => One x v w', fun v _ => v = .slice (some ⟨gs, os, none⟩) n c, fun v _ => v = .int .i64 (q : Int), fun v _ => TailAt gs os n c q v, fun v w' => RestAt (x :: S.drop q) v w']
         rfl (by kernel_rfl) (by kernel_rfl) ?stab ?steps ?fin
        case stab => exact .cons (Stab.eq _) (.cons (Stab.eq _) (.cons (Stab.eq _) (.cons (Stab.eq _) (.cons (fun _ _ _ he h => h.ext he) (.cons (Stab.eq _) (.cons (Stab.eq _) (.cons (fun _ _ _ _ h => h) (.cons (fun _ _ _ he h => h.ext he) .nil))))))))
        case steps =>
         refine .cons ?s0 (.cons ?s1 (.cons ?s2 (.cons ?s3 (.cons ?s4 (.cons ?s5 (.cons ?s6 (.cons ?s7 (.cons ?s8 .nil))))))))
         case s0 =>
          intro w' ev hE hk ha hc hf
          have e1 : ev (.tmp 1) = .slice (some ⟨gl, ol, none⟩) L.length cl := ha 1 (by decide)
          exact opStep_val (by simp [execOp, e1, go_sem]) rfl
         case s1 =>
          intro w' ev hE hk ha hc hf
          have e6 : ev (.tmp 6) = .int .i64 (k : Int) := ha 6 (by decide)
          exact opStep_val (by simp [execOp, e6, go_sem]) rfl
         case s2 =>
          intro w' ev hE hk ha hc hf
          have e50 : ev (.tmp 50) = .slice (some ⟨gl, ol, none⟩) L.length cl := hk.1 _ rfl
          have e51 : ev (.tmp 51) = .int .i64 (k : Int) := hk.2.1 _ rfl
          exact opStep_val (by simp [execOp, e50, e51, i2, go_sem]) rfl
         case s3 =>
          intro w' ev hE hk ha hc hf
          have e52 : ev (.tmp 52) = .pointer (some ⟨gl, ol + k * 8, none⟩) := hk.1 _ rfl
          have c0 : w'.cell? ⟨gl, ol + k * 8, none⟩ = some (.int .i64 (x 0)) := hE.cellv (hE8.out.cellv x0.out)
          have c1 : w'.cell? ⟨gl, ol + k * 8 + 1, none⟩ = some (.int .i64 (x 1)) := hE.cellv (hE8.out.cellv x1.out)
          have c2 : w'.cell? ⟨gl, ol + k * 8 + 2, none⟩ = some (.int .i64 (x 2)) := hE.cellv (hE8.out.cellv x2.out)
          have c3 : w'.cell? ⟨gl, ol + k * 8 + 3, none⟩ = some (.int .i64 (x 3)) := hE.cellv (hE8.out.cellv x3.out)
          have c4 : w'.cell? ⟨gl, ol + k * 8 + 4, none⟩ = some (.int .i64 (x 4)) := hE.cellv (hE8.out.cellv x4.out)
          have c5 : w'.cell? ⟨gl, ol + k * 8 + 5, none⟩ = some (.int .i64 (x 5)) := hE.cellv (hE8.out.cellv x5.out)
          have c6 : w'.cell? ⟨gl, ol + k * 8 + 6, none⟩ = some (.int .i64 (x 6)) := hE.cellv (hE8.out.cellv x6.out)
          have c7 : w'.cell? ⟨gl, ol + k * 8 + 7, none⟩ = some (.int .i64 (x 7)) := hE.cellv (hE8.out.cellv x7.out)
          exact opStep_val (by simp [execOp, e52, c0, c1, c2, c3, c4, c5, c6, c7, go_sem]) rfl
         case s4 =>
          intro w' ev hE hk ha hc hf
          have e53 : ev (.tmp 53) = .agg #[.int .i64 (x 0), .int .i64 (x 1), .int .i64 (x 2), .int .i64 (x 3), .int .i64 (x 4), .int .i64 (x 5), .int .i64 (x 6), .int .i64 (x 7)] := hk.1 _ rfl
          exact opStep_grow (by simp [execOp, e53, go_sem]) ((Ext.refl _).alloc _) ⟨_, rfl, (Blk.new _ _ _ : Blk (w'.alloc (.cells #[.int .i64 (x 0), .int .i64 (x 1), .int .i64 (x 2), .int .i64 (x 3), .int .i64 (x 4), .int .i64 (x 5), .int .i64 (x 6), .int .i64 (x 7)] 36)) w'.heap.size 36 #[.int .i64 (x 0), .int .i64 (x 1), .int .i64 (x 2), .int .i64 (x 3), .int .i64 (x 4), .int .i64 (x 5), .int .i64 (x 6), .int .i64 (x 7)])⟩
         case s5 =>
          intro w' ev hE hk ha hc hf
          have e5 : ev (.tmp 5) = .slice (some ⟨gs, os, none⟩) n c := ha 5 (by decide)
          exact opStep_val (by simp [execOp, e5, go_sem]) rfl
         case s6 =>
          intro w' ev hE hk ha hc hf
          have e7 : ev (.tmp 7) = .int .i64 (q : Int) := ha 7 (by decide)
          exact opStep_val (by simp [execOp, e7, go_sem]) rfl
         case s7 =>
          intro w' ev hE hk ha hc hf
          have e55 : ev (.tmp 55) = .slice (some ⟨gs, os, none⟩) n c := hk.1 _ rfl
          have e56 : ev (.tmp 56) = .int .i64 (q : Int) := hk.2.1 _ rfl
          by_cases hce : c = q
          ·exact opStep_val (v := .slice (some ⟨gs, os, none⟩) (n - q) (c - q)) (by simp [execOp, e55, e56, j1, j2, hce, go_sem]) ⟨os, rfl, fun h => by omega⟩
          ·exact opStep_val (v := .slice (some ⟨gs, os + q * 8, none⟩) (n - q) (c - q)) (by simp [execOp, e55, e56, j1, j2, hce, go_sem]) ⟨_, rfl, fun h => rfl⟩
         case s8 =>
          intro w' ev hE hk ha hc hf
          have f54 := hk.1 _ rfl
          have f57 := hk.2.1 _ rfl
          obtain ⟨v', w1, h1, h2, h3⟩ := append_rest (S := S) f54 f57 (hScell.out _ (hE8.out.trans ((Ext.refl _).drew.trans hE))) hnS.out hqn hnc.out hn16
          exact opStep_grow (by simp [execOp, resolve, invoke, builtin, h1, Result.andThen]) h2 h3
        case fin =>
         intro gf w' hE hF
         obtain ⟨A1, c1, e8, hRest⟩ := hF 8 _ rfl
         simp only [List.length_cons, List.length_nil, Nat.reduceAdd, List.drop_succ_cons, List.drop_zero, List.take_succ_cons, List.take_zero, putG, Act.put, List.setIfInBounds_toArray, List.set_cons_succ, List.set_cons_zero, e8]
         replace hE := hE8.out.trans ((Ext.refl _).drew.trans hE)
         obtain ⟨A2, c2, w9, hrun, hO9, hE9⟩ := append_full (R := S.take q) (S := x :: S.drop q) (b := gs) (o := os) (fun i j hi hj => by
          have hi' : i < q := by simp at hi; omega
          rw [rowAt_take hi']
          exact hScell.out _ hE i j (by rw [← hnS.out]; omega) hj) hRest.in_ (by simp) (by have := hnS.out; simp; omega) (Nat.le_trans (nextslicecap_le (by simp)) (by have := hnS.out; simp; omega))
         rw [show (S.take q).length = q by have := hnS.out; simp; omega] at hrun
         have hl9 : (S.take q ++ x :: S.drop q).length = n + 1 := by rw [ins_length (by rw [← hnS.out]; omega), ← hnS.out]
         rw [hl9] at hrun hO9
         have hl8 : (S.drop q).length = n - q := by rw [List.length_drop, ← hnS.out]
         rw [List.length_cons, hl8] at hrun
         rw [hl8]
         obtain ⟨A3, c3, e3, _, _, hx3⟩ := hO9.open_
         injection e3 with e4 e5 e6
         obtain ⟨g2, o2, e7, _, _⟩ := hx3 (by rw [hl9]; omega)
         rw [e7] at e4
         subst e4
         have hE10 := hide (hI.out.2.2.trans (hE.trans hE9))
         replace hrun := hide hrun
         replace hO9 := hide hO9
         replace hl9 := hide hl9
         have hdc : q ≤ c := by have := hnc.out; omega
         have hdc2 : (q : Int) ≤ c := by omega
         clear hF e8 hE hE9 i2 j1 j2 hRest hE8 hx3 e5 e6 e7 hl8
         go_wp2_with (at_builtin; go_loud (refine wpList_append_run rfl _ _ _ rfl _ _ rfl rfl hrun.out ?_))
         exact ⟨⟨k + 1, n + 1, _, g2, o2, c2, hlt, hl9.out.symm, by simp, rfl, hins.out, hO9.out, hE10.out⟩, by simp [intOf]; omega⟩

     ·have hsame : Hid (SortOf R (L.take (k + 1)) S) := by
       rw [← htk.out]
       exact hI.out.1.same (by rw [← hnS.out]; exact hlq) (oCmp_zero.1 hcmp)
      have heq : Hid (∀ W, (Op.equalIn 10000 36 (.agg #[.int .i64 (rowAt S q 0), .int .i64 (rowAt S q 1), .int .i64 (rowAt S q 2), .int .i64 (rowAt S q 3), .int .i64 (rowAt S q 4), .int .i64 (rowAt S q 5), .int .i64 (rowAt S q 6), .int .i64 (rowAt S q 7)]) (.agg #[.int .i64 (x 0), .int .i64 (x 1), .int .i64 (x 2), .int .i64 (x 3), .int .i64 (x 4), .int .i64 (x 5), .int .i64 (x 6), .int .i64 (x 7)])).run Tryz.prog W = .ok true W) := hide fun W => by
       rw [run_eq_mono, eqB_true.2 (oCmp_zero.1 hcmp)]
      replace hcmp := hide hcmp
      clear htk hJ
      generalize rowAt S q = y at *
      go_upto_region 6 with (fail)
      have i1 : (q : Int) < n := by omega
      have i2 : (k : Int) < L.length := by omega
      refine wp_region_v (by kernel_rfl) [[], [], [(17, 1)], [(16, 0), (18, 2)], [(19, 3)], [], [], [], [(22, 6), (23, 7)], [(24, 8)], [], [], [(26, 10), (27, 11)], [(28, 12)], [(21, 5), (25, 9), (29, 13)], [(30, 14)], [(20, 4), (31, 15)]] [[], [], [1], [0, 1, 2], [0, 1, 2, 3], [0, 1, 2, 3, 4], [0, 1, 2, 3, 4], [0, 1, 2, 3, 4], [0, 1, 2, 3, 4, 6, 7], [0, 1, 2, 3, 4, 6, 7, 8], [0, 1, 2, 3, 4], [0, 1, 2, 3, 4], [0, 1, 2, 3, 4, 10, 11], [0, 1, 2, 3, 4, 10, 11, 12], [0, 1, 2, 3, 4, 5, 6, 7, 8, 9, 10, 11, 12, 13], [0, 1, 2, 3, 4, 5, 6, 7, 8, 9, 10, 11, 12, 13, 14], [0, 1, 2, 3, 4, 5, 6, 7, 8, 9, 10, 11, 12, 13, 14, 15]]
       [fun v _ => v = .int .i64 (q : Int), fun v _ => v = .slice (some ⟨gs, os, none⟩) n c, fun v _ => v = .int .i64 (n : Int), fun v _ => v = .bool true, fun v _ => v = .bool true, fun v _ => v = .slice A0 R.length c0, fun v _ => v = .slice (some ⟨gs, os, none⟩) n c, fun v _ => v = .int .i64 (q : Int), fun v _ => v = .pointer (some ⟨gs, os + q * 8, none⟩), fun v _ => v = .agg #[.int .i64 (y 0), .int .i64 (y 1), .int .i64 (y 2), .int .i64 (y 3), .int .i64 (y 4), .int .i64 (y 5), .int .i64 (y 6), .int .i64 (y 7)], fun v _ => v = .slice (some ⟨gl, ol, none⟩) L.length cl, fun v _ => v = .int .i64 (k : Int), fun v _ => v = .pointer (some ⟨gl, ol + k * 8, none⟩), fun v _ => v = .agg #[.int .i64 (x 0), .int .i64 (x 1), .int .i64 (x 2), .int .i64 (x 3), .int .i64 (x 4), .int .i64 (x 5), .int .i64 (x 6), .int .i64 (x 7)], fun v _ => v = .int .i64 (0), fun v _ => v = .bool false, fun v _ => v = .bool false]
       rfl (by kernel_rfl) (by kernel_rfl) ?stab ?steps ?fin
      case stab => exact .cons (Stab.eq _) (.cons (Stab.eq _) (.cons (Stab.eq _) (.cons (Stab.eq _) (.cons (Stab.eq _) (.cons (Stab.eq _) (.cons (Stab.eq _) (.cons (Stab.eq _) (.cons (Stab.eq _) (.cons (Stab.eq _) (.cons (Stab.eq _) (.cons (Stab.eq _) (.cons (Stab.eq _) (.cons (Stab.eq _) (.cons (Stab.eq _) (.cons (Stab.eq _) (.cons (Stab.eq _) .nil))))))))))))))))
      case steps =>
       refine .cons ?s0 (.cons ?s1 (.cons ?s2 (.cons ?s3 (.cons ?s4 (.cons ?s5 (.cons ?s6 (.cons ?s7 (.cons ?s8 (.cons ?s9 (.cons ?s10 (.cons ?s11 (.cons ?s12 (.cons ?s13 (.cons ?s14 (.cons ?s15 (.cons ?s16 .nil))))))))))))))))
       case s0 =>
        intro w' ev hE hk ha hc hf
        have e7 : ev (.tmp 7) = .int .i64 (q : Int) := ha 7 (by decide)
        exact opStep_val (by simp [execOp, e7, go_sem]) rfl
       case s1 =>
        intro w' ev hE hk ha hc hf
        have e5 : ev (.tmp 5) = .slice (some ⟨gs, os, none⟩) n c := ha 5 (by decide)
        exact opStep_val (by simp [execOp, e5, go_sem]) rfl
       case s2 =>
        intro w' ev hE hk ha hc hf
        have e17 : ev (.tmp 17) = .slice (some ⟨gs, os, none⟩) n c := hk.1 _ rfl
        exact opStep_val (by simp [execOp, e17, go_sem]) rfl
       case s3 =>
        intro w' ev hE hk ha hc hf
        have e16 : ev (.tmp 16) = .int .i64 (q : Int) := hk.1 _ rfl
        have e18 : ev (.tmp 18) = .int .i64 (n : Int) := hk.2.1 _ rfl
        exact opStep_val (by simp [execOp, e16, e18, i1, go_sem]) rfl
       case s4 =>
        intro w' ev hE hk ha hc hf
        have e19 : ev (.tmp 19) = .bool true := hk.1 _ rfl
        exact opStep_val (by simp [execOp, e19, go_sem]) rfl
       case s5 =>
        intro w' ev hE hk ha hc hf
        intro gv hg
        have hgv := hg _ rfl
        refine ⟨fun hgt => ?_, fun hgf => ?_⟩
        ·skip
         have e0 : ev (.tmp 0) = .slice A0 R.length c0 := ha 0 (by decide)
         exact opStep_val (by simp [execOp, e0, go_sem]) rfl
        ·exact absurd hgv hgf
       case s6 =>
        intro w' ev hE hk ha hc hf
        intro gv hg
        have hgv := hg _ rfl
        refine ⟨fun hgt => ?_, fun hgf => ?_⟩
        ·skip
         have e5 : ev (.tmp 5) = .slice (some ⟨gs, os, none⟩) n c := ha 5 (by decide)
         exact opStep_val (by simp [execOp, e5, go_sem]) rfl
        ·exact absurd hgv hgf
       case s7 =>
        intro w' ev hE hk ha hc hf
        intro gv hg
        have hgv := hg _ rfl
        refine ⟨fun hgt => ?_, fun hgf => ?_⟩
        ·skip
         have e7 : ev (.tmp 7) = .int .i64 (q : Int) := ha 7 (by decide)
         exact opStep_val (by simp [execOp, e7, go_sem]) rfl
        ·exact absurd hgv hgf
       case s8 =>
        intro w' ev hE hk ha hc hf
        intro gv hg
        have hgv := hg _ rfl
        refine ⟨fun hgt => ?_, fun hgf => ?_⟩
        ·skip
         have e22 : ev (.tmp 22) = .slice (some ⟨gs, os, none⟩) n c := hk.1 _ rfl
         have e23 : ev (.tmp 23) = .int .i64 (q : Int) := hk.2.1 _ rfl
         exact opStep_val (by simp [execOp, e22, e23, i1, go_sem]) rfl
        ·exact absurd hgv hgf
       case s9 =>
        intro w' ev hE hk ha hc hf
        intro gv hg
        have hgv := hg _ rfl
        refine ⟨fun hgt => ?_, fun hgf => ?_⟩
        ·skip
         have e24 : ev (.tmp 24) = .pointer (some ⟨gs, os + q * 8, none⟩) := hk.1 _ rfl
         have c0 : w'.cell? ⟨gs, os + q * 8, none⟩ = some (.int .i64 (y 0)) := hE.cellv (hE8.out.cellv y0.out)
         have c1 : w'.cell? ⟨gs, os + q * 8 + 1, none⟩ = some (.int .i64 (y 1)) := hE.cellv (hE8.out.cellv y1.out)
         have c2 : w'.cell? ⟨gs, os + q * 8 + 2, none⟩ = some (.int .i64 (y 2)) := hE.cellv (hE8.out.cellv y2.out)
         have c3 : w'.cell? ⟨gs, os + q * 8 + 3, none⟩ = some (.int .i64 (y 3)) := hE.cellv (hE8.out.cellv y3.out)
         have c4 : w'.cell? ⟨gs, os + q * 8 + 4, none⟩ = some (.int .i64 (y 4)) := hE.cellv (hE8.out.cellv y4.out)
         have c5 : w'.cell? ⟨gs, os + q * 8 + 5, none⟩ = some (.int .i64 (y 5)) := hE.cellv (hE8.out.cellv y5.out)
         have c6 : w'.cell? ⟨gs, os + q * 8 + 6, none⟩ = some (.int .i64 (y 6)) := hE.cellv (hE8.out.cellv y6.out)
         have c7 : w'.cell? ⟨gs, os + q * 8 + 7, none⟩ = some (.int .i64 (y 7)) := hE.cellv (hE8.out.cellv y7.out)
         exact opStep_val (by simp [execOp, e24, c0, c1, c2, c3, c4, c5, c6, c7, go_sem]) rfl
        ·exact absurd hgv hgf
       case s10 =>
        intro w' ev hE hk ha hc hf
        intro gv hg
        have hgv := hg _ rfl
        refine ⟨fun hgt => ?_, fun hgf => ?_⟩
        ·skip
         have e1 : ev (.tmp 1) = .slice (some ⟨gl, ol, none⟩) L.length cl := ha 1 (by decide)
         exact opStep_val (by simp [execOp, e1, go_sem]) rfl
        ·exact absurd hgv hgf
       case s11 =>
        intro w' ev hE hk ha hc hf
        intro gv hg
        have hgv := hg _ rfl
        refine ⟨fun hgt => ?_, fun hgf => ?_⟩
        ·skip
         have e6 : ev (.tmp 6) = .int .i64 (k : Int) := ha 6 (by decide)
         exact opStep_val (by simp [execOp, e6, go_sem]) rfl
        ·exact absurd hgv hgf
       case s12 =>
        intro w' ev hE hk ha hc hf
        intro gv hg
        have hgv := hg _ rfl
        refine ⟨fun hgt => ?_, fun hgf => ?_⟩
        ·skip
         have e26 : ev (.tmp 26) = .slice (some ⟨gl, ol, none⟩) L.length cl := hk.1 _ rfl
         have e27 : ev (.tmp 27) = .int .i64 (k : Int) := hk.2.1 _ rfl
         exact opStep_val (by simp [execOp, e26, e27, i2, go_sem]) rfl
        ·exact absurd hgv hgf
       case s13 =>
        intro w' ev hE hk ha hc hf
        intro gv hg
        have hgv := hg _ rfl
        refine ⟨fun hgt => ?_, fun hgf => ?_⟩
        ·skip
         have e28 : ev (.tmp 28) = .pointer (some ⟨gl, ol + k * 8, none⟩) := hk.1 _ rfl
         have c0 : w'.cell? ⟨gl, ol + k * 8, none⟩ = some (.int .i64 (x 0)) := hE.cellv (hE8.out.cellv x0.out)
         have c1 : w'.cell? ⟨gl, ol + k * 8 + 1, none⟩ = some (.int .i64 (x 1)) := hE.cellv (hE8.out.cellv x1.out)
         have c2 : w'.cell? ⟨gl, ol + k * 8 + 2, none⟩ = some (.int .i64 (x 2)) := hE.cellv (hE8.out.cellv x2.out)
         have c3 : w'.cell? ⟨gl, ol + k * 8 + 3, none⟩ = some (.int .i64 (x 3)) := hE.cellv (hE8.out.cellv x3.out)
         have c4 : w'.cell? ⟨gl, ol + k * 8 + 4, none⟩ = some (.int .i64 (x 4)) := hE.cellv (hE8.out.cellv x4.out)
         have c5 : w'.cell? ⟨gl, ol + k * 8 + 5, none⟩ = some (.int .i64 (x 5)) := hE.cellv (hE8.out.cellv x5.out)
         have c6 : w'.cell? ⟨gl, ol + k * 8 + 6, none⟩ = some (.int .i64 (x 6)) := hE.cellv (hE8.out.cellv x6.out)
         have c7 : w'.cell? ⟨gl, ol + k * 8 + 7, none⟩ = some (.int .i64 (x 7)) := hE.cellv (hE8.out.cellv x7.out)
         exact opStep_val (by simp [execOp, e28, c0, c1, c2, c3, c4, c5, c6, c7, go_sem]) rfl
        ·exact absurd hgv hgf
       case s14 =>
        intro w' ev hE hk ha hc hf
        intro gv hg
        have hgv := hg _ rfl
        refine ⟨fun hgt => ?_, fun hgf => ?_⟩
        ·skip
         have e21 : ev (.tmp 21) = .slice A0 R.length c0 := hk.1 _ rfl
         have e25 : ev (.tmp 25) = .agg #[.int .i64 (y 0), .int .i64 (y 1), .int .i64 (y 2), .int .i64 (y 3), .int .i64 (y 4), .int .i64 (y 5), .int .i64 (y 6), .int .i64 (y 7)] := hk.2.1 _ rfl
         have e29 : ev (.tmp 29) = .agg #[.int .i64 (x 0), .int .i64 (x 1), .int .i64 (x 2), .int .i64 (x 3), .int .i64 (x 4), .int .i64 (x 5), .int .i64 (x 6), .int .i64 (x 7)] := hk.2.2.1 _ rfl
         refine opStep_call (by simp [execOp, resolve, invoke, hf, e21, e25, e29, go_sem]) (RCmp_any _ R y x _ (hO.out.ext (hE8.out.trans ((Ext.refl _).drew.trans hE))) hR.out hyB.out hxB.out) ?_
         rintro e w1 ⟨rfl, hE1⟩
         exact ⟨_, rfl, hE1, by rw [hcmp.out]⟩
        ·exact absurd hgv hgf
       case s15 =>
        intro w' ev hE hk ha hc hf
        intro gv hg
        have hgv := hg _ rfl
        refine ⟨fun hgt => ?_, fun hgf => ?_⟩
        ·skip
         have e30 : ev (.tmp 30) = .int .i64 (0) := hk.1 _ rfl
         exact opStep_val (by simp [execOp, e30, hc, go_sem]) rfl
        ·exact absurd hgv hgf
       case s16 =>
        intro w' ev hE hk ha hc hf
        have e20 : ev (.tmp 20) = .bool true := hk.1 _ rfl
        have e31 : ev (.tmp 31) = .bool false := hk.2.1 _ rfl
        exact opStep_val (by simp [execOp, e20, e31, hc, go_sem]) rfl
      case fin =>
       intro gf w' hE hF
       have e16 := hF 16 _ rfl
       simp only [List.length_cons, List.length_nil, Nat.reduceAdd, List.drop_succ_cons, List.drop_zero, List.take_succ_cons, List.take_zero, putG, Act.put, List.setIfInBounds_toArray, List.set_cons_succ, List.set_cons_zero, e16]
       replace hE8 := hide (hE8.out.trans ((Ext.refl _).drew.trans hE))
       clear hF e16 hE i1 i2
       go_upto_region 8 with (fail)
       have i1 : (q : Int) < n := by omega
       have i2 : (k : Int) < L.length := by omega
       refine wp_region_v (by kernel_rfl) [[], [], [(36, 1)], [(35, 0), (37, 2)], [(38, 3)], [], [], [(40, 5), (41, 6)], [(42, 7)], [], [], [(44, 9), (45, 10)], [(46, 11)], [(43, 8), (47, 12)], [(39, 4), (48, 13)]] [[], [], [1], [0, 1, 2], [0, 1, 2, 3], [0, 1, 2, 3, 4], [0, 1, 2, 3, 4], [0, 1, 2, 3, 4, 5, 6], [0, 1, 2, 3, 4, 5, 6, 7], [0, 1, 2, 3, 4], [0, 1, 2, 3, 4], [0, 1, 2, 3, 4, 9, 10], [0, 1, 2, 3, 4, 9, 10, 11], [0, 1, 2, 3, 4, 5, 6, 7, 8, 9, 10, 11, 12], [0, 1, 2, 3, 4, 5, 6, 7, 8, 9, 10, 11, 12, 13]]
        [fun v _ => v = .int .i64 (q : Int), fun v _ => v = .slice (some ⟨gs, os, none⟩) n c, fun v _ => v = .int .i64 (n : Int), fun v _ => v = .bool true, fun v _ => v = .bool true, fun v _ => v = .slice (some ⟨gs, os, none⟩) n c, fun v _ => v = .int .i64 (q : Int), fun v _ => v = .pointer (some ⟨gs, os + q * 8, none⟩), fun v _ => v = .agg #[.int .i64 (y 0), .int .i64 (y 1), .int .i64 (y 2), .int .i64 (y 3), .int .i64 (y 4), .int .i64 (y 5), .int .i64 (y 6), .int .i64 (y 7)], fun v _ => v = .slice (some ⟨gl, ol, none⟩) L.length cl, fun v _ => v = .int .i64 (k : Int), fun v _ => v = .pointer (some ⟨gl, ol + k * 8, none⟩), fun v _ => v = .agg #[.int .i64 (x 0), .int .i64 (x 1), .int .i64 (x 2), .int .i64 (x 3), .int .i64 (x 4), .int .i64 (x 5), .int .i64 (x 6), .int .i64 (x 7)], fun v _ => v = .bool true, fun v _ => v = .bool true]
        rfl (by kernel_rfl) (by kernel_rfl) ?stab ?steps ?fin
       case stab => exact .cons (Stab.eq _) (.cons (Stab.eq _) (.cons (Stab.eq _) (.cons (Stab.eq _) (.cons (Stab.eq _) (.cons (Stab.eq _) (.cons (Stab.eq _) (.cons (Stab.eq _) (.cons (Stab.eq _) (.cons (Stab.eq _) (.cons (Stab.eq _) (.cons (Stab.eq _) (.cons (Stab.eq _) (.cons (Stab.eq _) (.cons (Stab.eq _) .nil))))))))))))))
       case steps =>
        refine .cons ?s0 (.cons ?s1 (.cons ?s2 (.cons ?s3 (.cons ?s4 (.cons ?s5 (.cons ?s6 (.cons ?s7 (.cons ?s8 (.cons ?s9 (.cons ?s10 (.cons ?s11 (.cons ?s12 (.cons ?s13 (.cons ?s14 .nil))))))))))))))
        case s0 =>
         intro w' ev hE hk ha hc hf
         have e7 : ev (.tmp 7) = .int .i64 (q : Int) := ha 7 (by decide)
         exact opStep_val (by simp [execOp, e7, go_sem]) rfl
        case s1 =>
         intro w' ev hE hk ha hc hf
         have e5 : ev (.tmp 5) = .slice (some ⟨gs, os, none⟩) n c := ha 5 (by decide)
         exact opStep_val (by simp [execOp, e5, go_sem]) rfl
        case s2 =>
         intro w' ev hE hk ha hc hf
         have e36 : ev (.tmp 36) = .slice (some ⟨gs, os, none⟩) n c := hk.1 _ rfl
         exact opStep_val (by simp [execOp, e36, go_sem]) rfl
        case s3 =>
         intro w' ev hE hk ha hc hf
         have e35 : ev (.tmp 35) = .int .i64 (q : Int) := hk.1 _ rfl
         have e37 : ev (.tmp 37) = .int .i64 (n : Int) := hk.2.1 _ rfl
         exact opStep_val (by simp [execOp, e35, e37, i1, go_sem]) rfl
        case s4 =>
         intro w' ev hE hk ha hc hf
         have e38 : ev (.tmp 38) = .bool true := hk.1 _ rfl
         exact opStep_val (by simp [execOp, e38, go_sem]) rfl
        case s5 =>
         intro w' ev hE hk ha hc hf
         intro gv hg
         have hgv := hg _ rfl
         refine ⟨fun hgt => ?_, fun hgf => ?_⟩
         ·skip
          have e5 : ev (.tmp 5) = .slice (some ⟨gs, os, none⟩) n c := ha 5 (by decide)
          exact opStep_val (by simp [execOp, e5, go_sem]) rfl
         ·exact absurd hgv hgf
        case s6 =>
         intro w' ev hE hk ha hc hf
         intro gv hg
         have hgv := hg _ rfl
         refine ⟨fun hgt => ?_, fun hgf => ?_⟩
         ·skip
          have e7 : ev (.tmp 7) = .int .i64 (q : Int) := ha 7 (by decide)
          exact opStep_val (by simp [execOp, e7, go_sem]) rfl
         ·exact absurd hgv hgf
        case s7 =>
         intro w' ev hE hk ha hc hf
         intro gv hg
         have hgv := hg _ rfl
         refine ⟨fun hgt => ?_, fun hgf => ?_⟩
         ·skip
          have e40 : ev (.tmp 40) = .slice (some ⟨gs, os, none⟩) n c := hk.1 _ rfl
          have e41 : ev (.tmp 41) = .int .i64 (q : Int) := hk.2.1 _ rfl
          exact opStep_val (by simp [execOp, e40, e41, i1, go_sem]) rfl
         ·exact absurd hgv hgf
        case s8 =>
         intro w' ev hE hk ha hc hf
         intro gv hg
         have hgv := hg _ rfl
         refine ⟨fun hgt => ?_, fun hgf => ?_⟩
         ·skip
          have e42 : ev (.tmp 42) = .pointer (some ⟨gs, os + q * 8, none⟩) := hk.1 _ rfl
          have c0 : w'.cell? ⟨gs, os + q * 8, none⟩ = some (.int .i64 (y 0)) := hE.cellv (hE8.out.cellv y0.out)
          have c1 : w'.cell? ⟨gs, os + q * 8 + 1, none⟩ = some (.int .i64 (y 1)) := hE.cellv (hE8.out.cellv y1.out)
          have c2 : w'.cell? ⟨gs, os + q * 8 + 2, none⟩ = some (.int .i64 (y 2)) := hE.cellv (hE8.out.cellv y2.out)
          have c3 : w'.cell? ⟨gs, os + q * 8 + 3, none⟩ = some (.int .i64 (y 3)) := hE.cellv (hE8.out.cellv y3.out)
          have c4 : w'.cell? ⟨gs, os + q * 8 + 4, none⟩ = some (.int .i64 (y 4)) := hE.cellv (hE8.out.cellv y4.out)
          have c5 : w'.cell? ⟨gs, os + q * 8 + 5, none⟩ = some (.int .i64 (y 5)) := hE.cellv (hE8.out.cellv y5.out)
          have c6 : w'.cell? ⟨gs, os + q * 8 + 6, none⟩ = some (.int .i64 (y 6)) := hE.cellv (hE8.out.cellv y6.out)
          have c7 : w'.cell? ⟨gs, os + q * 8 + 7, none⟩ = some (.int .i64 (y 7)) := hE.cellv (hE8.out.cellv y7.out)
          exact opStep_val (by simp [execOp, e42, c0, c1, c2, c3, c4, c5, c6, c7, go_sem]) rfl
         ·exact absurd hgv hgf
        case s9 =>
         intro w' ev hE hk ha hc hf
         intro gv hg
         have hgv := hg _ rfl
         refine ⟨fun hgt => ?_, fun hgf => ?_⟩
         ·skip
          have e1 : ev (.tmp 1) = .slice (some ⟨gl, ol, none⟩) L.length cl := ha 1 (by decide)
          exact opStep_val (by simp [execOp, e1, go_sem]) rfl
         ·exact absurd hgv hgf
        case s10 =>
         intro w' ev hE hk ha hc hf
         intro gv hg
         have hgv := hg _ rfl
         refine ⟨fun hgt => ?_, fun hgf => ?_⟩
         ·skip
          have e6 : ev (.tmp 6) = .int .i64 (k : Int) := ha 6 (by decide)
          exact opStep_val (by simp [execOp, e6, go_sem]) rfl
         ·exact absurd hgv hgf
        case s11 =>
         intro w' ev hE hk ha hc hf
         intro gv hg
         have hgv := hg _ rfl
         refine ⟨fun hgt => ?_, fun hgf => ?_⟩
         ·skip
          have e44 : ev (.tmp 44) = .slice (some ⟨gl, ol, none⟩) L.length cl := hk.1 _ rfl
          have e45 : ev (.tmp 45) = .int .i64 (k : Int) := hk.2.1 _ rfl
          exact opStep_val (by simp [execOp, e44, e45, i2, go_sem]) rfl
         ·exact absurd hgv hgf
        case s12 =>
         intro w' ev hE hk ha hc hf
         intro gv hg
         have hgv := hg _ rfl
         refine ⟨fun hgt => ?_, fun hgf => ?_⟩
         ·skip
          have e46 : ev (.tmp 46) = .pointer (some ⟨gl, ol + k * 8, none⟩) := hk.1 _ rfl
          have c0 : w'.cell? ⟨gl, ol + k * 8, none⟩ = some (.int .i64 (x 0)) := hE.cellv (hE8.out.cellv x0.out)
          have c1 : w'.cell? ⟨gl, ol + k * 8 + 1, none⟩ = some (.int .i64 (x 1)) := hE.cellv (hE8.out.cellv x1.out)
          have c2 : w'.cell? ⟨gl, ol + k * 8 + 2, none⟩ = some (.int .i64 (x 2)) := hE.cellv (hE8.out.cellv x2.out)
          have c3 : w'.cell? ⟨gl, ol + k * 8 + 3, none⟩ = some (.int .i64 (x 3)) := hE.cellv (hE8.out.cellv x3.out)
          have c4 : w'.cell? ⟨gl, ol + k * 8 + 4, none⟩ = some (.int .i64 (x 4)) := hE.cellv (hE8.out.cellv x4.out)
          have c5 : w'.cell? ⟨gl, ol + k * 8 + 5, none⟩ = some (.int .i64 (x 5)) := hE.cellv (hE8.out.cellv x5.out)
          have c6 : w'.cell? ⟨gl, ol + k * 8 + 6, none⟩ = some (.int .i64 (x 6)) := hE.cellv (hE8.out.cellv x6.out)
          have c7 : w'.cell? ⟨gl, ol + k * 8 + 7, none⟩ = some (.int .i64 (x 7)) := hE.cellv (hE8.out.cellv x7.out)
          exact opStep_val (by simp [execOp, e46, c0, c1, c2, c3, c4, c5, c6, c7, go_sem]) rfl
         ·exact absurd hgv hgf
        case s13 =>
         intro w' ev hE hk ha hc hf
         intro gv hg
         have hgv := hg _ rfl
         refine ⟨fun hgt => ?_, fun hgf => ?_⟩
         ·skip
          have e43 : ev (.tmp 43) = .agg #[.int .i64 (y 0), .int .i64 (y 1), .int .i64 (y 2), .int .i64 (y 3), .int .i64 (y 4), .int .i64 (y 5), .int .i64 (y 6), .int .i64 (y 7)] := hk.1 _ rfl
          have e47 : ev (.tmp 47) = .agg #[.int .i64 (x 0), .int .i64 (x 1), .int .i64 (x 2), .int .i64 (x 3), .int .i64 (x 4), .int .i64 (x 5), .int .i64 (x 6), .int .i64 (x 7)] := hk.2.1 _ rfl
          have hq := heq.out
          exact opStep_val (by simp [execOp, e43, e47, hq, go_sem]) rfl
         ·exact absurd hgv hgf
        case s14 =>
         intro w' ev hE hk ha hc hf
         have e39 : ev (.tmp 39) = .bool true := hk.1 _ rfl
         have e48 : ev (.tmp 48) = .bool true := hk.2.1 _ rfl
         exact opStep_val (by simp [execOp, e39, e48, hc, go_sem]) rfl
       case fin =>
        intro gf w' hE hF
        have e14 := hF 14 _ rfl
        simp only [List.length_cons, List.length_nil, Nat.reduceAdd, List.drop_succ_cons, List.drop_zero, List.take_succ_cons, List.take_zero, putG, Act.put, List.setIfInBounds_toArray, List.set_cons_succ, List.set_cons_zero, e14]
        replace hE8 := hide (hE8.out.trans ((Ext.refl _).drew.trans hE))
        clear hF e14 hE i1 i2
        go_wp2
        exact ⟨⟨k + 1, n, S, gs, os, c, hlt, hnS.out, by simp, rfl, hsame.out, hI.out.2.1.ext hE8.out, hI.out.2.2.trans hE8.out⟩, by simp [intOf]; omega⟩

     ·have hup : Hid (∀ j, j < q + 1 → 0 < oCmp R (rowAt S j) x) := hide fun j hj => by
       by_cases e : j = q
       ·rw [e, hcmp]; decide
       ·exact hJ.out.1 j (by omega)
      replace hcmp := hide hcmp
      clear htk hJ
      generalize hy : rowAt S q = y at *
      clear hy
      go_upto_region 6 with (fail)
      have i1 : (q : Int) < n := by omega
      have i2 : (k : Int) < L.length := by omega
      refine wp_region_v (by kernel_rfl) [[], [], [(17, 1)], [(16, 0), (18, 2)], [(19, 3)], [], [], [], [(22, 6), (23, 7)], [(24, 8)], [], [], [(26, 10), (27, 11)], [(28, 12)], [(21, 5), (25, 9), (29, 13)], [(30, 14)], [(20, 4), (31, 15)]] [[], [], [1], [0, 1, 2], [0, 1, 2, 3], [0, 1, 2, 3, 4], [0, 1, 2, 3, 4], [0, 1, 2, 3, 4], [0, 1, 2, 3, 4, 6, 7], [0, 1, 2, 3, 4, 6, 7, 8], [0, 1, 2, 3, 4], [0, 1, 2, 3, 4], [0, 1, 2, 3, 4, 10, 11], [0, 1, 2, 3, 4, 10, 11, 12], [0, 1, 2, 3, 4, 5, 6, 7, 8, 9, 10, 11, 12, 13], [0, 1, 2, 3, 4, 5, 6, 7, 8, 9, 10, 11, 12, 13, 14], [0, 1, 2, 3, 4, 5, 6, 7, 8, 9, 10, 11, 12, 13, 14, 15]]
       [fun v _ => v = .int .i64 (q : Int), fun v _ => v = .slice (some ⟨gs, os, none⟩) n c, fun v _ => v = .int .i64 (n : Int), fun v _ => v = .bool true, fun v _ => v = .bool true, fun v _ => v = .slice A0 R.length c0, fun v _ => v = .slice (some ⟨gs, os, none⟩) n c, fun v _ => v = .int .i64 (q : Int), fun v _ => v = .pointer (some ⟨gs, os + q * 8, none⟩), fun v _ => v = .agg #[.int .i64 (y 0), .int .i64 (y 1), .int .i64 (y 2), .int .i64 (y 3), .int .i64 (y 4), .int .i64 (y 5), .int .i64 (y 6), .int .i64 (y 7)], fun v _ => v = .slice (some ⟨gl, ol, none⟩) L.length cl, fun v _ => v = .int .i64 (k : Int), fun v _ => v = .pointer (some ⟨gl, ol + k * 8, none⟩), fun v _ => v = .agg #[.int .i64 (x 0), .int .i64 (x 1), .int .i64 (x 2), .int .i64 (x 3), .int .i64 (x 4), .int .i64 (x 5), .int .i64 (x 6), .int .i64 (x 7)], fun v _ => v = .int .i64 (1), fun v _ => v = .bool true, fun v _ => v = .bool true]
       rfl (by kernel_rfl) (by kernel_rfl) ?stab ?steps ?fin
      case stab => exact .cons (Stab.eq _) (.cons (Stab.eq _) (.cons (Stab.eq _) (.cons (Stab.eq _) (.cons (Stab.eq _) (.cons (Stab.eq _) (.cons (Stab.eq _) (.cons (Stab.eq _) (.cons (Stab.eq _) (.cons (Stab.eq _) (.cons (Stab.eq _) (.cons (Stab.eq _) (.cons (Stab.eq _) (.cons (Stab.eq _) (.cons (Stab.eq _) (.cons (Stab.eq _) (.cons (Stab.eq _) .nil))))))))))))))))
      case steps =>
       refine .cons ?s0 (.cons ?s1 (.cons ?s2 (.cons ?s3 (.cons ?s4 (.cons ?s5 (.cons ?s6 (.cons ?s7 (.cons ?s8 (.cons ?s9 (.cons ?s10 (.cons ?s11 (.cons ?s12 (.cons ?s13 (.cons ?s14 (.cons ?s15 (.cons ?s16 .nil))))))))))))))))
       case s0 =>
        intro w' ev hE hk ha hc hf
        have e7 : ev (.tmp 7) = .int .i64 (q : Int) := ha 7 (by decide)
        exact opStep_val (by simp [execOp, e7, go_sem]) rfl
       case s1 =>
        intro w' ev hE hk ha hc hf
        have e5 : ev (.tmp 5) = .slice (some ⟨gs, os, none⟩) n c := ha 5 (by decide)
        exact opStep_val (by simp [execOp, e5, go_sem]) rfl
       case s2 =>
        intro w' ev hE hk ha hc hf
        have e17 : ev (.tmp 17) = .slice (some ⟨gs, os, none⟩) n c := hk.1 _ rfl
        exact opStep_val (by simp [execOp, e17, go_sem]) rfl
       case s3 =>
        intro w' ev hE hk ha hc hf
        have e16 : ev (.tmp 16) = .int .i64 (q : Int) := hk.1 _ rfl
        have e18 : ev (.tmp 18) = .int .i64 (n : Int) := hk.2.1 _ rfl
        exact opStep_val (by simp [execOp, e16, e18, i1, go_sem]) rfl
       case s4 =>
        intro w' ev hE hk ha hc hf
        have e19 : ev (.tmp 19) = .bool true := hk.1 _ rfl
        exact opStep_val (by simp [execOp, e19, go_sem]) rfl
       case s5 =>
        intro w' ev hE hk ha hc hf
        intro gv hg
        have hgv := hg _ rfl
        refine ⟨fun hgt => ?_, fun hgf => ?_⟩
        ·skip
         have e0 : ev (.tmp 0) = .slice A0 R.length c0 := ha 0 (by decide)
         exact opStep_val (by simp [execOp, e0, go_sem]) rfl
        ·exact absurd hgv hgf
       case s6 =>
        intro w' ev hE hk ha hc hf
        intro gv hg
        have hgv := hg _ rfl
        refine ⟨fun hgt => ?_, fun hgf => ?_⟩
        ·skip
         have e5 : ev (.tmp 5) = .slice (some ⟨gs, os, none⟩) n c := ha 5 (by decide)
         exact opStep_val (by simp [execOp, e5, go_sem]) rfl
        ·exact absurd hgv hgf
       case s7 =>
        intro w' ev hE hk ha hc hf
        intro gv hg
        have hgv := hg _ rfl
        refine ⟨fun hgt => ?_, fun hgf => ?_⟩
        ·skip
         have e7 : ev (.tmp 7) = .int .i64 (q : Int) := ha 7 (by decide)
         exact opStep_val (by simp [execOp, e7, go_sem]) rfl
        ·exact absurd hgv hgf
       case s8 =>
        intro w' ev hE hk ha hc hf
        intro gv hg
        have hgv := hg _ rfl
        refine ⟨fun hgt => ?_, fun hgf => ?_⟩
        ·skip
         have e22 : ev (.tmp 22) = .slice (some ⟨gs, os, none⟩) n c := hk.1 _ rfl
         have e23 : ev (.tmp 23) = .int .i64 (q : Int) := hk.2.1 _ rfl
         exact opStep_val (by simp [execOp, e22, e23, i1, go_sem]) rfl
        ·exact absurd hgv hgf
       case s9 =>
        intro w' ev hE hk ha hc hf
        intro gv hg
        have hgv := hg _ rfl
        refine ⟨fun hgt => ?_, fun hgf => ?_⟩
        ·skip
         have e24 : ev (.tmp 24) = .pointer (some ⟨gs, os + q * 8, none⟩) := hk.1 _ rfl
         have c0 : w'.cell? ⟨gs, os + q * 8, none⟩ = some (.int .i64 (y 0)) := hE.cellv (hE8.out.cellv y0.out)
         have c1 : w'.cell? ⟨gs, os + q * 8 + 1, none⟩ = some (.int .i64 (y 1)) := hE.cellv (hE8.out.cellv y1.out)
         have c2 : w'.cell? ⟨gs, os + q * 8 + 2, none⟩ = some (.int .i64 (y 2)) := hE.cellv (hE8.out.cellv y2.out)
         have c3 : w'.cell? ⟨gs, os + q * 8 + 3, none⟩ = some (.int .i64 (y 3)) := hE.cellv (hE8.out.cellv y3.out)
         have c4 : w'.cell? ⟨gs, os + q * 8 + 4, none⟩ = some (.int .i64 (y 4)) := hE.cellv (hE8.out.cellv y4.out)
         have c5 : w'.cell? ⟨gs, os + q * 8 + 5, none⟩ = some (.int .i64 (y 5)) := hE.cellv (hE8.out.cellv y5.out)
         have c6 : w'.cell? ⟨gs, os + q * 8 + 6, none⟩ = some (.int .i64 (y 6)) := hE.cellv (hE8.out.cellv y6.out)
         have c7 : w'.cell? ⟨gs, os + q * 8 + 7, none⟩ = some (.int .i64 (y 7)) := hE.cellv (hE8.out.cellv y7.out)
         exact opStep_val (by simp [execOp, e24, c0, c1, c2, c3, c4, c5, c6, c7, go_sem]) rfl
        ·exact absurd hgv hgf
       case s10 =>
        intro w' ev hE hk ha hc hf
        intro gv hg
        have hgv := hg _ rfl
        refine ⟨fun hgt => ?_, fun hgf => ?_⟩
        ·skip
         have e1 : ev (.tmp 1) = .slice (some ⟨gl, ol, none⟩) L.length cl := ha 1 (by decide)
         exact opStep_val (by simp [execOp, e1, go_sem]) rfl
        ·exact absurd hgv hgf
       case s11 =>
        intro w' ev hE hk ha hc hf
        intro gv hg
        have hgv := hg _ rfl
        refine ⟨fun hgt => ?_, fun hgf => ?_⟩
        ·skip
         have e6 : ev (.tmp 6) = .int .i64 (k : Int) := ha 6 (by decide)
         exact opStep_val (by simp [execOp, e6, go_sem]) rfl
        ·exact absurd hgv hgf
       case s12 =>
        intro w' ev hE hk ha hc hf
        intro gv hg
        have hgv := hg _ rfl
        refine ⟨fun hgt => ?_, fun hgf => ?_⟩
        ·skip
         have e26 : ev (.tmp 26) = .slice (some ⟨gl, ol, none⟩) L.length cl := hk.1 _ rfl
         have e27 : ev (.tmp 27) = .int .i64 (k : Int) := hk.2.1 _ rfl
         exact opStep_val (by simp [execOp, e26, e27, i2, go_sem]) rfl
        ·exact absurd hgv hgf
       case s13 =>
        intro w' ev hE hk ha hc hf
        intro gv hg
        have hgv := hg _ rfl
        refine ⟨fun hgt => ?_, fun hgf => ?_⟩
        ·skip
         have e28 : ev (.tmp 28) = .pointer (some ⟨gl, ol + k * 8, none⟩) := hk.1 _ rfl
         have c0 : w'.cell? ⟨gl, ol + k * 8, none⟩ = some (.int .i64 (x 0)) := hE.cellv (hE8.out.cellv x0.out)
         have c1 : w'.cell? ⟨gl, ol + k * 8 + 1, none⟩ = some (.int .i64 (x 1)) := hE.cellv (hE8.out.cellv x1.out)
         have c2 : w'.cell? ⟨gl, ol + k * 8 + 2, none⟩ = some (.int .i64 (x 2)) := hE.cellv (hE8.out.cellv x2.out)
         have c3 : w'.cell? ⟨gl, ol + k * 8 + 3, none⟩ = some (.int .i64 (x 3)) := hE.cellv (hE8.out.cellv x3.out)
         have c4 : w'.cell? ⟨gl, ol + k * 8 + 4, none⟩ = some (.int .i64 (x 4)) := hE.cellv (hE8.out.cellv x4.out)
         have c5 : w'.cell? ⟨gl, ol + k * 8 + 5, none⟩ = some (.int .i64 (x 5)) := hE.cellv (hE8.out.cellv x5.out)
         have c6 : w'.cell? ⟨gl, ol + k * 8 + 6, none⟩ = some (.int .i64 (x 6)) := hE.cellv (hE8.out.cellv x6.out)
         have c7 : w'.cell? ⟨gl, ol + k * 8 + 7, none⟩ = some (.int .i64 (x 7)) := hE.cellv (hE8.out.cellv x7.out)
         exact opStep_val (by simp [execOp, e28, c0, c1, c2, c3, c4, c5, c6, c7, go_sem]) rfl
        ·exact absurd hgv hgf
       case s14 =>
        intro w' ev hE hk ha hc hf
        intro gv hg
        have hgv := hg _ rfl
        refine ⟨fun hgt => ?_, fun hgf => ?_⟩
        ·skip
         have e21 : ev (.tmp 21) = .slice A0 R.length c0 := hk.1 _ rfl
         have e25 : ev (.tmp 25) = .agg #[.int .i64 (y 0), .int .i64 (y 1), .int .i64 (y 2), .int .i64 (y 3), .int .i64 (y 4), .int .i64 (y 5), .int .i64 (y 6), .int .i64 (y 7)] := hk.2.1 _ rfl
         have e29 : ev (.tmp 29) = .agg #[.int .i64 (x 0), .int .i64 (x 1), .int .i64 (x 2), .int .i64 (x 3), .int .i64 (x 4), .int .i64 (x 5), .int .i64 (x 6), .int .i64 (x 7)] := hk.2.2.1 _ rfl
         refine opStep_call (by simp [execOp, resolve, invoke, hf, e21, e25, e29, go_sem]) (RCmp_any _ R y x _ (hO.out.ext (hE8.out.trans ((Ext.refl _).drew.trans hE))) hR.out hyB.out hxB.out) ?_
         rintro e w1 ⟨rfl, hE1⟩
         exact ⟨_, rfl, hE1, by rw [hcmp.out]⟩
        ·exact absurd hgv hgf
       case s15 =>
        intro w' ev hE hk ha hc hf
        intro gv hg
        have hgv := hg _ rfl
        refine ⟨fun hgt => ?_, fun hgf => ?_⟩
        ·skip
         have e30 : ev (.tmp 30) = .int .i64 (1) := hk.1 _ rfl
         exact opStep_val (by simp [execOp, e30, hc, go_sem]) rfl
        ·exact absurd hgv hgf
       case s16 =>
        intro w' ev hE hk ha hc hf
        have e20 : ev (.tmp 20) = .bool true := hk.1 _ rfl
        have e31 : ev (.tmp 31) = .bool true := hk.2.1 _ rfl
        exact opStep_val (by simp [execOp, e20, e31, hc, go_sem]) rfl
      case fin =>
       intro gf w' hE hF
       have e16 := hF 16 _ rfl
       simp only [List.length_cons, List.length_nil, Nat.reduceAdd, List.drop_succ_cons, List.drop_zero, List.take_succ_cons, List.take_zero, putG, Act.put, List.setIfInBounds_toArray, List.set_cons_succ, List.set_cons_zero, e16]
       replace hE8 := hide (hE8.out.trans ((Ext.refl _).drew.trans hE))
       clear hF e16 hE i1 i2
       go_wp2
       exact ⟨⟨q + 1, hlq, by simp, hup.out, hE8.out⟩, by simp [intOf]; omega⟩

    ·obtain rfl : q = n := by omega
     have hdq : decide (q < q) = false := by simp
     have hins : Hid (SortOf R (L.take (k + 1)) (S.take q ++ x :: S.drop q)) := by
      rw [← htk.out]
      exact hI.out.1.ins (by rw [← hnS.out]; exact Nat.le_refl _) hJ.out.1 (fun h => by rw [← hnS.out] at h; omega)
     clear htk hJ
     go_upto_region 6 with (fail)
     have i1 : ¬ (q : Int) < q := by omega
     refine wp_region_v (by kernel_rfl) [[], [], [(17, 1)], [(16, 0), (18, 2)], [(19, 3)], [], [], [], [(22, 6), (23, 7)], [(24, 8)], [], [], [(26, 10), (27, 11)], [(28, 12)], [(21, 5), (25, 9), (29, 13)], [(30, 14)], [(20, 4), (31, 15)]] [[], [], [1], [0, 1, 2], [0, 1, 2, 3], [0, 1, 2, 3, 4], [0, 1, 2, 3, 4], [0, 1, 2, 3, 4], [0, 1, 2, 3, 4, 6, 7], [0, 1, 2, 3, 4, 6, 7, 8], [0, 1, 2, 3, 4], [0, 1, 2, 3, 4], [0, 1, 2, 3, 4, 10, 11], [0, 1, 2, 3, 4, 10, 11, 12], [0, 1, 2, 3, 4, 5, 6, 7, 8, 9, 10, 11, 12, 13], [0, 1, 2, 3, 4, 5, 6, 7, 8, 9, 10, 11, 12, 13, 14], [0, 1, 2, 3, 4, 5, 6, 7, 8, 9, 10, 11, 12, 13, 14, 15]]
      [fun v _ => v = .int .i64 (q : Int), fun v _ => v = .slice (some ⟨gs, os, none⟩) q c, fun v _ => v = .int .i64 (q : Int), fun v _ => v = .bool false, fun v _ => v = .bool false, fun v _ => v = undef, fun v _ => v = undef, fun v _ => v = undef, fun v _ => v = undef, fun v _ => v = undef, fun v _ => v = undef, fun v _ => v = undef, fun v _ => v = undef, fun v _ => v = undef, fun v _ => v = undef, fun v _ => v = undef, fun v _ => v = .bool false]
      rfl (by kernel_rfl) (by kernel_rfl) ?stab ?steps ?fin
     case stab => exact .cons (Stab.eq _) (.cons (Stab.eq _) (.cons (Stab.eq _) (.cons (Stab.eq _) (.cons (Stab.eq _) (.cons (Stab.eq _) (.cons (Stab.eq _) (.cons (Stab.eq _) (.cons (Stab.eq _) (.cons (Stab.eq _) (.cons (Stab.eq _) (.cons (Stab.eq _) (.cons (Stab.eq _) (.cons (Stab.eq _) (.cons (Stab.eq _) (.cons (Stab.eq _) (.cons (Stab.eq _) .nil))))))))))))))))
     case steps =>
      refine .cons ?s0 (.cons ?s1 (.cons ?s2 (.cons ?s3 (.cons ?s4 (.cons ?s5 (.cons ?s6 (.cons ?s7 (.cons ?s8 (.cons ?s9 (.cons ?s10 (.cons ?s11 (.cons ?s12 (.cons ?s13 (.cons ?s14 (.cons ?s15 (.cons ?s16 .nil))))))))))))))))
      case s0 =>
       intro w' ev hE hk ha hc hf
       have e7 : ev (.tmp 7) = .int .i64 (q : Int) := ha 7 (by decide)
       exact opStep_val (by simp [execOp, e7, go_sem]) rfl
      case s1 =>
       intro w' ev hE hk ha hc hf
       have e5 : ev (.tmp 5) = .slice (some ⟨gs, os, none⟩) q c := ha 5 (by decide)
       exact opStep_val (by simp [execOp, e5, go_sem]) rfl
      case s2 =>
       intro w' ev hE hk ha hc hf
       have e17 : ev (.tmp 17) = .slice (some ⟨gs, os, none⟩) q c := hk.1 _ rfl
       exact opStep_val (by simp [execOp, e17, go_sem]) rfl
      case s3 =>
       intro w' ev hE hk ha hc hf
       have e16 : ev (.tmp 16) = .int .i64 (q : Int) := hk.1 _ rfl
       have e18 : ev (.tmp 18) = .int .i64 (q : Int) := hk.2.1 _ rfl
       exact opStep_val (by simp [execOp, e16, e18, i1, go_sem]) rfl
      case s4 =>
       intro w' ev hE hk ha hc hf
       have e19 : ev (.tmp 19) = .bool false := hk.1 _ rfl
       exact opStep_val (by simp [execOp, e19, go_sem]) rfl
      case s5 =>
       intro w' ev hE hk ha hc hf
       intro gv hg
       have hgv := hg _ rfl
       exact ⟨(fun hgt => by rw [hgv] at hgt; cases hgt), fun _ => rfl⟩
      case s6 =>
       intro w' ev hE hk ha hc hf
       intro gv hg
       have hgv := hg _ rfl
       exact ⟨(fun hgt => by rw [hgv] at hgt; cases hgt), fun _ => rfl⟩
      case s7 =>
       intro w' ev hE hk ha hc hf
       intro gv hg
       have hgv := hg _ rfl
       exact ⟨(fun hgt => by rw [hgv] at hgt; cases hgt), fun _ => rfl⟩
      case s8 =>
       intro w' ev hE hk ha hc hf
       intro gv hg
       have hgv := hg _ rfl
       exact ⟨(fun hgt => by rw [hgv] at hgt; cases hgt), fun _ => rfl⟩
      case s9 =>
       intro w' ev hE hk ha hc hf
       intro gv hg
       have hgv := hg _ rfl
       exact ⟨(fun hgt => by rw [hgv] at hgt; cases hgt), fun _ => rfl⟩
      case s10 =>
       intro w' ev hE hk ha hc hf
       intro gv hg
       have hgv := hg _ rfl
       exact ⟨(fun hgt => by rw [hgv] at hgt; cases hgt), fun _ => rfl⟩
      case s11 =>
       intro w' ev hE hk ha hc hf
       intro gv hg
       have hgv := hg _ rfl
       exact ⟨(fun hgt => by rw [hgv] at hgt; cases hgt), fun _ => rfl⟩
      case s12 =>
       intro w' ev hE hk ha hc hf
       intro gv hg
       have hgv := hg _ rfl
       exact ⟨(fun hgt => by rw [hgv] at hgt; cases hgt), fun _ => rfl⟩
      case s13 =>
       intro w' ev hE hk ha hc hf
       intro gv hg
       have hgv := hg _ rfl
       exact ⟨(fun hgt => by rw [hgv] at hgt; cases hgt), fun _ => rfl⟩
      case s14 =>
       intro w' ev hE hk ha hc hf
       intro gv hg
       have hgv := hg _ rfl
       exact ⟨(fun hgt => by rw [hgv] at hgt; cases hgt), fun _ => rfl⟩
      case s15 =>
       intro w' ev hE hk ha hc hf
       intro gv hg
       have hgv := hg _ rfl
       exact ⟨(fun hgt => by rw [hgv] at hgt; cases hgt), fun _ => rfl⟩
      case s16 =>
       intro w' ev hE hk ha hc hf
       have e20 : ev (.tmp 20) = .bool false := hk.1 _ rfl
       have e31 : ev (.tmp 31) = undef := hk.2.1 _ rfl
       exact opStep_val (by simp [execOp, e20, e31, hc, go_sem]) rfl
     case fin =>
      intro gf w' hE hF
      have e16 := hF 16 _ rfl
      simp only [List.length_cons, List.length_nil, Nat.reduceAdd, List.drop_succ_cons, List.drop_zero, List.take_succ_cons, List.take_zero, putG, Act.put, List.setIfInBounds_toArray, List.set_cons_succ, List.set_cons_zero, e16]
      replace hE8 := hide (hE8.out.trans ((Ext.refl _).drew.trans hE))
      clear hF e16 hE i1
      go_upto_region 8 with (fail)
      have i1 : ¬ (q : Int) < q := by omega
      refine wp_region_v (by kernel_rfl) [[], [], [(36, 1)], [(35, 0), (37, 2)], [(38, 3)], [], [], [(40, 5), (41, 6)], [(42, 7)], [], [], [(44, 9), (45, 10)], [(46, 11)], [(43, 8), (47, 12)], [(39, 4), (48, 13)]] [[], [], [1], [0, 1, 2], [0, 1, 2, 3], [0, 1, 2, 3, 4], [0, 1, 2, 3, 4], [0, 1, 2, 3, 4, 5, 6], [0, 1, 2, 3, 4, 5, 6, 7], [0, 1, 2, 3, 4], [0, 1, 2, 3, 4], [0, 1, 2, 3, 4, 9, 10], [0, 1, 2, 3, 4, 9, 10, 11], [0, 1, 2, 3, 4, 5, 6, 7, 8, 9, 10, 11, 12], [0, 1, 2, 3, 4, 5, 6, 7, 8, 9, 10, 11, 12, 13]]
       [fun v _ => v = .int .i64 (q : Int), fun v _ => v = .slice (some ⟨gs, os, none⟩) q c, fun v _ => v = .int .i64 (q : Int), fun v _ => v = .bool false, fun v _ => v = .bool false, fun v _ => v = undef, fun v _ => v = undef, fun v _ => v = undef, fun v _ => v = undef, fun v _ => v = undef, fun v _ => v = undef, fun v _ => v = undef, fun v _ => v = undef, fun v _ => v = undef, fun v _ => v = .bool false]
       rfl (by kernel_rfl) (by kernel_rfl) ?stab ?steps ?fin
      case stab => exact .cons (Stab.eq _) (.cons (Stab.eq _) (.cons (Stab.eq _) (.cons (Stab.eq _) (.cons (Stab.eq _) (.cons (Stab.eq _) (.cons (Stab.eq _) (.cons (Stab.eq _) (.cons (Stab.eq _) (.cons (Stab.eq _) (.cons (Stab.eq _) (.cons (Stab.eq _) (.cons (Stab.eq _) (.cons (Stab.eq _) (.cons (Stab.eq _) .nil))))))))))))))
      case steps =>
       refine .cons ?s0 (.cons ?s1 (.cons ?s2 (.cons ?s3 (.cons ?s4 (.cons ?s5 (.cons ?s6 (.cons ?s7 (.cons ?s8 (.cons ?s9 (.cons ?s10 (.cons ?s11 (.cons ?s12 (.cons ?s13 (.cons ?s14 .nil))))))))))))))
       case s0 =>
        intro w' ev hE hk ha hc hf
        have e7 : ev (.tmp 7) = .int .i64 (q : Int) := ha 7 (by decide)
        exact opStep_val (by simp [execOp, e7, go_sem]) rfl
       case s1 =>
        intro w' ev hE hk ha hc hf
        have e5 : ev (.tmp 5) = .slice (some ⟨gs, os, none⟩) q c := ha 5 (by decide)
        exact opStep_val (by simp [execOp, e5, go_sem]) rfl
       case s2 =>
        intro w' ev hE hk ha hc hf
        have e36 : ev (.tmp 36) = .slice (some ⟨gs, os, none⟩) q c := hk.1 _ rfl
        exact opStep_val (by simp [execOp, e36, go_sem]) rfl
       case s3 =>
        intro w' ev hE hk ha hc hf
        have e35 : ev (.tmp 35) = .int .i64 (q : Int) := hk.1 _ rfl
        have e37 : ev (.tmp 37) = .int .i64 (q : Int) := hk.2.1 _ rfl
        exact opStep_val (by simp [execOp, e35, e37, i1, go_sem]) rfl
       case s4 =>
        intro w' ev hE hk ha hc hf
        have e38 : ev (.tmp 38) = .bool false := hk.1 _ rfl
        exact opStep_val (by simp [execOp, e38, go_sem]) rfl
       case s5 =>
        intro w' ev hE hk ha hc hf
        intro gv hg
        have hgv := hg _ rfl
        exact ⟨(fun hgt => by rw [hgv] at hgt; cases hgt), fun _ => rfl⟩
       case s6 =>
        intro w' ev hE hk ha hc hf
        intro gv hg
        have hgv := hg _ rfl
        exact ⟨(fun hgt => by rw [hgv] at hgt; cases hgt), fun _ => rfl⟩
       case s7 =>
        intro w' ev hE hk ha hc hf
        intro gv hg
        have hgv := hg _ rfl
        exact ⟨(fun hgt => by rw [hgv] at hgt; cases hgt), fun _ => rfl⟩
       case s8 =>
        intro w' ev hE hk ha hc hf
        intro gv hg
        have hgv := hg _ rfl
        exact ⟨(fun hgt => by rw [hgv] at hgt; cases hgt), fun _ => rfl⟩
       case s9 =>
        intro w' ev hE hk ha hc hf
        intro gv hg
        have hgv := hg _ rfl
        exact ⟨(fun hgt => by rw [hgv] at hgt; cases hgt), fun _ => rfl⟩
       case s10 =>
        intro w' ev hE hk ha hc hf
        intro gv hg
        have hgv := hg _ rfl
        exact ⟨(fun hgt => by rw [hgv] at hgt; cases hgt), fun _ => rfl⟩
       case s11 =>
        intro w' ev hE hk ha hc hf
        intro gv hg
        have hgv := hg _ rfl
        exact ⟨(fun hgt => by rw [hgv] at hgt; cases hgt), fun _ => rfl⟩
       case s12 =>
        intro w' ev hE hk ha hc hf
        intro gv hg
        have hgv := hg _ rfl
        exact ⟨(fun hgt => by rw [hgv] at hgt; cases hgt), fun _ => rfl⟩
       case s13 =>
        intro w' ev hE hk ha hc hf
        intro gv hg
        have hgv := hg _ rfl
        exact ⟨(fun hgt => by rw [hgv] at hgt; cases hgt), fun _ => rfl⟩
       case s14 =>
        intro w' ev hE hk ha hc hf
        have e39 : ev (.tmp 39) = .bool false := hk.1 _ rfl
        have e48 : ev (.tmp 48) = undef := hk.2.1 _ rfl
        exact opStep_val (by simp [execOp, e39, e48, hc, go_sem]) rfl
      case fin =>
       intro gf w' hE hF
       have e14 := hF 14 _ rfl
       simp only [List.length_cons, List.length_nil, Nat.reduceAdd, List.drop_succ_cons, List.drop_zero, List.take_succ_cons, List.take_zero, putG, Act.put, List.setIfInBounds_toArray, List.set_cons_succ, List.set_cons_zero, e14]
       replace hE8 := hide (hE8.out.trans ((Ext.refl _).drew.trans hE))
       clear hF e14 hE i1
       go_upto_region 9 with (fail)
       have i2 : (k : Int) < L.length := by omega
       have j1 : q ≤ q := by omega
       have j2 : (q : Int) ≤ q := by omega
       refine wp_region_v (by kernel_rfl) [[], [], [(50, 0), (51, 1)], [(52, 2)], [(53, 3)], [], [], [(55, 5), (56, 6)], [(54, 4), (57, 7)]] [[], [], [0, 1], [0, 1, 2], [0, 1, 2, 3], [], [], [5, 6], [0, 1, 2, 3, 4, 5, 6, 7]]
        [fun v _ => v = .slice (some ⟨gl, ol, none⟩) L.length cl, fun v _ => v = .int .i64 (k : Int), fun v _ => v = .pointer (some ⟨gl, ol + k * 8, none⟩), fun v _ => v = .agg #[.int .i64 (x 0), .int .i64 (x 1), .int .i64 (x 2), .int .i64 (x 3), .int .i64 (x 4), .int .i64 (x 5), .int .i64 (x 6), .int .i64 (x 7)], fun v w' => One x v w', fun v _ => v = .slice (some ⟨gs, os, none⟩) q c, fun v _ => v = .int .i64 (q : Int), fun v _ => TailAt gs os q c q v, fun v w' => RestAt (x :: S.drop q) v w']
        rfl (by kernel_rfl) (by kernel_rfl) ?stab ?steps ?fin
       case stab => exact .cons (Stab.eq _) (.cons (Stab.eq _) (.cons (Stab.eq _) (.cons (Stab.eq _) (.cons (fun _ _ _ he h => h.ext he) (.cons (Stab.eq _) (.cons (Stab.eq _) (.cons (fun _ _ _ _ h => h) (.cons (fun _ _ _ he h => h.ext he) .nil))))))))
       case steps =>
        refine .cons ?s0 (.cons ?s1 (.cons ?s2 (.cons ?s3 (.cons ?s4 (.cons ?s5 (.cons ?s6 (.cons ?s7 (.cons ?s8 .nil))))))))
        case s0 =>
         intro w' ev hE hk ha hc hf
         have e1 : ev (.tmp 1) = .slice (some ⟨gl, ol, none⟩) L.length cl := ha 1 (by decide)
         exact opStep_val (by simp [execOp, e1, go_sem]) rfl
        case s1 =>
         intro w' ev hE hk ha hc hf
         have e6 : ev (.tmp 6) = .int .i64 (k : Int) := ha 6 (by decide)
         exact opStep_val (by simp [execOp, e6, go_sem]) rfl
        case s2 =>
         intro w' ev hE hk ha hc hf
         have e50 : ev (.tmp 50) = .slice (some ⟨gl, ol, none⟩) L.length cl := hk.1 _ rfl
         have e51 : ev (.tmp 51) = .int .i64 (k : Int) := hk.2.1 _ rfl
         exact opStep_val (by simp [execOp, e50, e51, i2, go_sem]) rfl
        case s3 =>
         intro w' ev hE hk ha hc hf
         have e52 : ev (.tmp 52) = .pointer (some ⟨gl, ol + k * 8, none⟩) := hk.1 _ rfl
         have c0 : w'.cell? ⟨gl, ol + k * 8, none⟩ = some (.int .i64 (x 0)) := hE.cellv (hE8.out.cellv x0.out)
         have c1 : w'.cell? ⟨gl, ol + k * 8 + 1, none⟩ = some (.int .i64 (x 1)) := hE.cellv (hE8.out.cellv x1.out)
         have c2 : w'.cell? ⟨gl, ol + k * 8 + 2, none⟩ = some (.int .i64 (x 2)) := hE.cellv (hE8.out.cellv x2.out)
         have c3 : w'.cell? ⟨gl, ol + k * 8 + 3, none⟩ = some (.int .i64 (x 3)) := hE.cellv (hE8.out.cellv x3.out)
         have c4 : w'.cell? ⟨gl, ol + k * 8 + 4, none⟩ = some (.int .i64 (x 4)) := hE.cellv (hE8.out.cellv x4.out)
         have c5 : w'.cell? ⟨gl, ol + k * 8 + 5, none⟩ = some (.int .i64 (x 5)) := hE.cellv (hE8.out.cellv x5.out)
         have c6 : w'.cell? ⟨gl, ol + k * 8 + 6, none⟩ = some (.int .i64 (x 6)) := hE.cellv (hE8.out.cellv x6.out)
         have c7 : w'.cell? ⟨gl, ol + k * 8 + 7, none⟩ = some (.int .i64 (x 7)) := hE.cellv (hE8.out.cellv x7.out)
         exact opStep_val (by simp [execOp, e52, c0, c1, c2, c3, c4, c5, c6, c7, go_sem]) rfl
        case s4 =>
         intro w' ev hE hk ha hc hf
         have e53 : ev (.tmp 53) = .agg #[.int .i64 (x 0), .int .i64 (x 1), .int .i64 (x 2), .int .i64 (x 3), .int .i64 (x 4), .int .i64 (x 5), .int .i64 (x 6), .int .i64 (x 7)] := hk.1 _ rfl
         exact opStep_grow (by simp [execOp, e53, go_sem]) ((Ext.refl _).alloc _) ⟨_, rfl, (Blk.new _ _ _ : Blk (w'.alloc (.cells #[.int .i64 (x 0), .int .i64 (x 1), .int .i64 (x 2), .int .i64 (x 3), .int .i64 (x 4), .int .i64 (x 5), .int .i64 (x 6), .int .i64 (x 7)] 36)) w'.heap.size 36 #[.int .i64 (x 0), .int .i64 (x 1), .int .i64 (x 2), .int .i64 (x 3), .int .i64 (x 4), .int .i64 (x 5), .int .i64 (x 6), .int .i64 (x 7)])⟩
        case s5 =>
         intro w' ev hE hk ha hc hf
         have e5 : ev (.tmp 5) = .slice (some ⟨gs, os, none⟩) q c := ha 5 (by decide)
         exact opStep_val (by simp [execOp, e5, go_sem]) rfl
        case s6 =>
         intro w' ev hE hk ha hc hf
         have e7 : ev (.tmp 7) = .int .i64 (q : Int) := ha 7 (by decide)
         exact opStep_val (by simp [execOp, e7, go_sem]) rfl
        case s7 =>
         intro w' ev hE hk ha hc hf
         have e55 : ev (.tmp 55) = .slice (some ⟨gs, os, none⟩) q c := hk.1 _ rfl
         have e56 : ev (.tmp 56) = .int .i64 (q : Int) := hk.2.1 _ rfl
         by_cases hce : c = q
         ·exact opStep_val (v := .slice (some ⟨gs, os, none⟩) (q - q) (c - q)) (by simp [execOp, e55, e56, j1, j2, hce, go_sem]) ⟨os, rfl, fun h => by omega⟩
         ·exact opStep_val (v := .slice (some ⟨gs, os + q * 8, none⟩) (q - q) (c - q)) (by simp [execOp, e55, e56, j1, j2, hce, go_sem]) ⟨_, rfl, fun h => rfl⟩
        case s8 =>
         intro w' ev hE hk ha hc hf
         have f54 := hk.1 _ rfl
         have f57 := hk.2.1 _ rfl
         obtain ⟨v', w1, h1, h2, h3⟩ := append_rest (S := S) f54 f57 (hScell.out _ (hE8.out.trans ((Ext.refl _).drew.trans hE))) hnS.out hqn hnc.out hn16
         exact opStep_grow (by simp [execOp, resolve, invoke, builtin, h1, Result.andThen]) h2 h3
       case fin =>
        intro gf w' hE hF
        obtain ⟨A1, c1, e8, hRest⟩ := hF 8 _ rfl
        simp only [List.length_cons, List.length_nil, Nat.reduceAdd, List.drop_succ_cons, List.drop_zero, List.take_succ_cons, List.take_zero, putG, Act.put, List.setIfInBounds_toArray, List.set_cons_succ, List.set_cons_zero, e8]
        replace hE := hE8.out.trans ((Ext.refl _).drew.trans hE)
        obtain ⟨A2, c2, w9, hrun, hO9, hE9⟩ := append_full (R := S.take q) (S := x :: S.drop q) (b := gs) (o := os) (fun i j hi hj => by
         have hi' : i < q := by simp at hi; omega
         rw [rowAt_take hi']
         exact hScell.out _ hE i j (by rw [← hnS.out]; omega) hj) hRest.in_ (by simp) (by have := hnS.out; simp; omega) (Nat.le_trans (nextslicecap_le (by simp)) (by have := hnS.out; simp; omega))
        rw [show (S.take q).length = q by have := hnS.out; simp; omega] at hrun
        have hl9 : (S.take q ++ x :: S.drop q).length = q + 1 := by rw [ins_length (by rw [← hnS.out]; omega), ← hnS.out]
        rw [hl9] at hrun hO9
        have hl8 : (S.drop q).length = q - q := by rw [List.length_drop, ← hnS.out]
        rw [List.length_cons, hl8] at hrun
        rw [hl8]
        obtain ⟨A3, c3, e3, _, _, hx3⟩ := hO9.open_
        injection e3 with e4 e5 e6
        obtain ⟨g2, o2, e7, _, _⟩ := hx3 (by rw [hl9]; omega)
        rw [e7] at e4
        subst e4
        have hE10 := hide (hI.out.2.2.trans (hE.trans hE9))
        replace hrun := hide hrun
        replace hO9 := hide hO9
        replace hl9 := hide hl9
        have hdc : q ≤ c := by have := hnc.out; omega
        have hdc2 : (q : Int) ≤ c := by omega
        clear hF e8 hE hE9 i2 j1 j2 hRest hE8 hx3 e5 e6 e7 hl8
        go_wp2_with (at_builtin; go_loud (refine wpList_append_run rfl _ _ _ rfl _ _ rfl rfl hrun.out ?_))
        exact ⟨⟨k + 1, q + 1, _, g2, o2, c2, hlt, hl9.out.symm, by simp, rfl, hins.out, hO9.out, hE10.out⟩, by simp [intOf]; omega⟩

  ·obtain rfl : k = L.length := by omega
   have hdl : decide (L.length < L.length) = false := by simp
   have htl := hI.out.1
   rw [List.take_length] at htl
   replace htl := hide htl
   replace hnS := hide hnS
   go_wp2
   go_ret
   refine ⟨S, htl.out, some ⟨gs, os, none⟩, c, ?_, ?_, hI.out.2.2⟩
   ·rw [← hnS.out]; rfl
   ·rw [← hnS.out]; exact hI.out.2.1

end Go.Proofs.YteefhmdameeoaaaGreat
