/-
  order.Permute's errors, for any numbers and rows known cell by cell.
-/
import Derived.Test.YteefhmdameeoaaaGreatRefs
set_option linter.unusedSimpArgs false
set_option linter.unusedVariables false
namespace Go.Proofs.YteefhmdameeoaaaGreat
open Go.RowKit

set_option maxRecDepth 100000 in
theorem Permute_bad_in (v : Value) (R : List (Nat → Int)) (a : Nat → Int) (w : World) (h : RowsIn .i64 w v R) (hv : ¬ OValid R) :
    Calls Tryz.prog 13 #[v, .agg #[.int .i64 (a 0), .int .i64 (a 1), .int .i64 (a 2), .int .i64 (a 3), .int .i64 (a 4), .int .i64 (a 5), .int .i64 (a 6), .int .i64 (a 7)]] w (RetErr 50 w) := by
  have hE0 : Hid (Ext w (w.alloc (.cells #[.int .i64 (a 0), .int .i64 (a 1), .int .i64 (a 2), .int .i64 (a 3), .int .i64 (a 4), .int .i64 (a 5), .int .i64 (a 6), .int .i64 (a 7)] 35))) := (Ext.refl w).alloc _
  have h1 := hide (h.ext hE0.out)
  go_enter Tryz.func13, Tryz.ntmps13
  go_wp2_with fail
  refine (oValid_in v R _ h1.out).mono ?_
  rw [ovB_false hv]
  rintro e w1 ⟨rfl, hE1⟩
  replace hE1 := hide hE1
  go_wp2
  go_ret2
  exact ⟨rfl, hE0.out.trans hE1.out⟩

theorem RowsIn.setB {w : World} {v : Value} {R : List (Nat → Int)} (h : RowsIn .i64 w v R) {B : Nat} (hB : w.heap.size ≤ B) {w1 : World} (he : Ext w w1) (k : Nat) (u : Value) : RowsIn .i64 (w1.setCell ⟨B, k, none⟩ u) v R := h.ext (he.set (p := ⟨B, k, none⟩) hB u)

set_option maxRecDepth 100000 in
set_option maxHeartbeats 1600000 in
theorem Permute_err_in (v : Value) (R : List (Nat → Int)) (a : Nat → Int) (w : World) (h : RowsIn .i64 w v R) (hv : OValid R) (n : Int) (hne : n ≠ 0) (hgn : GoodP a → n = 2 ∧ ¬ Total R ∧ 16 < R.length) (hbn : ¬ GoodP a → n = 1) :
    Calls Tryz.prog 13 #[v, .agg #[.int .i64 (a 0), .int .i64 (a 1), .int .i64 (a 2), .int .i64 (a 3), .int .i64 (a 4), .int .i64 (a 5), .int .i64 (a 6), .int .i64 (a 7)]] w (RetErr n w) := by
  have hE0 : Hid (Ext w (w.alloc (.cells #[.int .i64 (a 0), .int .i64 (a 1), .int .i64 (a 2), .int .i64 (a 3), .int .i64 (a 4), .int .i64 (a 5), .int .i64 (a 6), .int .i64 (a 7)] 35))) := (Ext.refl w).alloc _
  have hB0 : Hid (Blk (w.alloc (.cells #[.int .i64 (a 0), .int .i64 (a 1), .int .i64 (a 2), .int .i64 (a 3), .int .i64 (a 4), .int .i64 (a 5), .int .i64 (a 6), .int .i64 (a 7)] 35)) w.heap.size 35 (c8 a)) := Blk.new _ _ _
  replace h := hide h
  replace hgn := hide hgn
  replace hbn := hide hbn
  replace hne := hide hne
  go_enter Tryz.func13, Tryz.ntmps13
  go_wp2_with fail
  generalize (w.alloc (.cells #[.int .i64 (a 0), .int .i64 (a 1), .int .i64 (a 2), .int .i64 (a 3), .int .i64 (a 4), .int .i64 (a 5), .int .i64 (a 6), .int .i64 (a 7)] 35)) = wa at *
  refine (oValid_in v R _ (h.out.ext hE0.out)).mono ?_
  rw [ovB_true hv]
  rintro e w1 ⟨rfl, hE1⟩
  have hE2 := hide (hE0.out.trans hE1)
  have hB1 := hide (hB0.out.ext hE1)
  clear hE0 hB0 hE1
  have q0 : (w1).cell? ⟨w.heap.size, 0, none⟩ = some (.int .i64 (a 0)) := (hB1.out).cell 0
  have q1 : (w1).cell? ⟨w.heap.size, 1, none⟩ = some (.int .i64 (a 1)) := (hB1.out).cell 1
  have q2 : (w1).cell? ⟨w.heap.size, 2, none⟩ = some (.int .i64 (a 2)) := (hB1.out).cell 2
  have q3 : (w1).cell? ⟨w.heap.size, 3, none⟩ = some (.int .i64 (a 3)) := (hB1.out).cell 3
  have q4 : (w1).cell? ⟨w.heap.size, 4, none⟩ = some (.int .i64 (a 4)) := (hB1.out).cell 4
  have q5 : (w1).cell? ⟨w.heap.size, 5, none⟩ = some (.int .i64 (a 5)) := (hB1.out).cell 5
  have q6 : (w1).cell? ⟨w.heap.size, 6, none⟩ = some (.int .i64 (a 6)) := (hB1.out).cell 6
  have q7 : (w1).cell? ⟨w.heap.size, 7, none⟩ = some (.int .i64 (a 7)) := (hB1.out).cell 7
  have hS1 : Hid (Blk (w1.alloc (.cells #[.bool false, .bool false, .bool false, .bool false, .bool false, .bool false, .bool false, .bool false] 64)) w1.heap.size 64 (cb8 (metTo (natP a) 0))) := Blk.new _ _ _
  have hE3 : Hid (Ext w (w1.alloc (.cells #[.bool false, .bool false, .bool false, .bool false, .bool false, .bool false, .bool false, .bool false] 64))) := hE2.out.alloc _
  have hsz : w.heap.size < w1.heap.size := hB1.out.lt
  go_upto_region 5 with (fail)
  clear q0 q1 q2 q3 q4 q5 q6 q7 hB1 hE2
  generalize (w1.alloc (.cells #[.bool false, .bool false, .bool false, .bool false, .bool false, .bool false, .bool false, .bool false] 64)) = w2 at *
  generalize w1.heap.size = S at *
  go_loopw [20] (fun i wr => ∃ k : Nat, k ≤ 8 ∧ i = .int .i64 k ∧ Hid ((∀ i, i < k → OkP a i) ∧ Blk wr S 64 (cb8 (metTo (natP a) k)) ∧ Ext w wr)) (fun i _ => 8 - (intOf i).toNat)
  case atStart => exact ⟨0, by omega, rfl, fun i h => by omega, hS1.out, hE3.out⟩
  case round =>
    obtain ⟨k, hk, rfl, hI⟩ := hrel
    clear hS1 hE3
    by_cases hlt : k < 8
    · have hix := fun W => run_index_row a k hlt W
      have hbad : Hid (¬ OkP a k → n = 1) := fun hn => hbn.out fun h => hn (h k hlt)
      have hgood : Hid (OkP a k → ∀ i, i < k + 1 → OkP a i) := fun hg i h' => by
        by_cases e : i = k
        · rw [e]; exact hg
        · exact hI.out.1 i (by omega)
      have hok0 : Hid (OkP a k → 0 ≤ a k ∧ a k ≤ 7) := fun h => ⟨h.1, h.2.1⟩
      by_cases h1 : a k < 0
      · generalize a k = x at *
        have h1' : decide (x < 0) = true := by simpa using h1
        go_wp2
        go_ret2
        exact ⟨by rw [hbad.out fun h => by have := hok0.out h; omega]; rfl, hI.out.2.2⟩
      · by_cases h2 : 8 ≤ a k
        · generalize a k = x at *
          have h1' : decide (x < 0) = false := by simpa using h1
          have h2' : decide (8 ≤ x) = true := by simpa using h2
          go_wp2
          go_ret2
          exact ⟨by rw [hbad.out fun h => by have := hok0.out h; omega]; rfl, hI.out.2.2⟩
        · have hmet := hide (met_ok hlt hI.out.1 (by omega) (by omega))
          obtain ⟨y, hy⟩ : ∃ y : Nat, a k = y := ⟨(a k).toNat, by omega⟩
          have hy8 : y < 8 := by omega
          have hym : Hid (metTo (natP a) k y = false → OkP a k) := fun h => hmet.out.2 (by rw [hy]; simpa using h)
          have hyn : Hid (metTo (natP a) k y = true → ¬ OkP a k) := fun h hn => by
            have := hmet.out.1 hn
            rw [hy, Int.toNat_natCast, h] at this
            cases this
          have xs : wr.cell? ⟨S, y, none⟩ = some (.bool (metTo (natP a) k y)) := hI.out.2.1.atb hy8
          have xz := hI.out.2.1.frozen y
          have hny : natP a k = y := by unfold natP; omega
          have hset : Hid (Blk (wr.setCell ⟨S, y, none⟩ (.bool true)) S 64 (cb8 (metTo (natP a) (k + 1)))) :=
            hI.out.2.1.setb hy8 _ (by rw [metTo_succ, hny]; simp) fun i hi hne => by rw [metTo_succ, hny]; simp [Ne.symm hne]
          clear hmet hny
          rw [hy] at hix
          clear hok0 hy h1 h2
          have h1' : decide ((y : Int) < 0) = false := by simp
          have h2' : decide ((8 : Int) ≤ y) = false := by simp; omega
          cases hs : metTo (natP a) k y with
          | true =>
            have hb := hide (hbad.out (hyn.out hs))
            rw [hs] at xs
            clear hs hym hyn hbad hgood
            go_wp2
            go_ret2
            exact ⟨by rw [hb.out]; rfl, hI.out.2.2⟩
          | false =>
            have hg := hide (hgood.out (hym.out hs))
            rw [hs] at xs
            clear hs hym hyn hbad hgood
            go_wp2
            exact ⟨⟨k + 1, hlt, by simp, hg.out, hset.out, hI.out.2.2.set (p := ⟨S, y, none⟩) (by dsimp only; omega) _⟩, by simp [intOf]; omega⟩
    · obtain rfl : k = 8 := by omega
      obtain ⟨hn2, ht, h16⟩ := hgn.out hI.out.1
      replace ht := hide ht
      have hE := hide hI.out.2.2
      have hr := hide (h.out.ext hE.out)
      subst hn2
      clear hI
      go_wp2_with fail
      refine (Full_big_in v R _ hr.out hv ht.out h16).mono ?_
      rintro e w3 ⟨rfl, hE1⟩
      have hE4 := hide (hE.out.trans hE1)
      clear hE hE1
      go_wp2
      go_ret2
      exact ⟨rfl, hE4.out⟩

end Go.Proofs.YteefhmdameeoaaaGreat
