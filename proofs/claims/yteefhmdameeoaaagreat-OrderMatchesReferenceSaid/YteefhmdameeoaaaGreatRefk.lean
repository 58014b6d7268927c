/-
  Contracts of the reference's orders: Lex, Graded, unit, Reverse, Eliminating, Eliminates, Valid, Permutation.
-/
import Derived.Test.YteefhmdameeoaaaGreatRefj
set_option linter.unusedSimpArgs false
set_option linter.unusedVariables false
namespace Go.Proofs.YteefhmdameeoaaaGreat
open Go.RowKit

set_option maxRecDepth 100000 in
theorem RLex_any (w : World) : Calls Tryz.prog 22 #[] w (RetOrder [] w) := by
  go_enter Tryz.func22, Tryz.ntmps22
  go_wp2
  go_ret
  exact ⟨_, _, rfl, OwnRows.blk (R := []) (Nat.le_refl _) (Blk.new _ _ _) rfl (by simp), (Ext.refl _).alloc _⟩
theorem rl_ones : (rl [onesOf 255]).toArray = #[.int .i64 1, .int .i64 1, .int .i64 1, .int .i64 1, .int .i64 1, .int .i64 1, .int .i64 1, .int .i64 1] := rfl
set_option maxRecDepth 100000 in
theorem RGraded_any (w : World) : Calls Tryz.prog 24 #[] w (RetOrder [onesOf 255] w) := by
  go_enter Tryz.func24, Tryz.ntmps24
  go_wp2
  go_ret
  exact ⟨_, _, rfl, OwnRows.blk (R := [onesOf 255]) (Nat.le_refl _) (by rw [rl_ones]; exact Blk.new _ _ _) rfl (by simp), (Ext.refl _).alloc _⟩
set_option maxRecDepth 100000 in
theorem Runit_any (i : Nat) (n : Int) (w : World) (hi : i < 8) :
    Calls Tryz.prog 40 #[.int .i64 i, .int .i64 n] w fun e w' => e = .returned (.agg #[.int .i64 (powOf i n 0), .int .i64 (powOf i n 1), .int .i64 (powOf i n 2), .int .i64 (powOf i n 3), .int .i64 (powOf i n 4), .int .i64 (powOf i n 5), .int .i64 (powOf i n 6), .int .i64 (powOf i n 7)]) ∧ Ext w w' := by
  rcases lt8 hi with rfl | rfl | rfl | rfl | rfl | rfl | rfl | rfl
  all_goals
    go_enter Tryz.func40, Tryz.ntmps40
    go_wp2
    refine bodyPost_ret (v := .agg (c8 (powOf _ n))) ?_ rfl ⟨rfl, ?_⟩
    · simp [results, Tryz.results40, go_sem, powOf, c8]
    · exact ((Ext.refl _).alloc _).alloc _
theorem pow_minus (k : Nat) : powOf k (-1) = minusOne k := rfl

set_option maxRecDepth 100000 in
set_option maxHeartbeats 800000 in
theorem RReverse_any (w : World) : Calls Tryz.prog 26 #[] w (RetOrder revRows w) := by
  go_enter Tryz.func26, Tryz.ntmps26
  go_wp2_with fail
  refine (RGraded_any _).mono ?_
  rintro e w1 ⟨A0, c0, rfl, hO0, hE1⟩
  replace hO0 := hide hO0
  replace hE1 := hide hE1
  go_wp2
  go_loopw [1, 2] (fun v i wr => ∃ (k : Nat) (R : List (Nat → Int)) (A : Option Addr) (c : Nat), k ≤ 7 ∧ i = .int .i64 k ∧ v = .slice A R.length c ∧ Hid (R ++ revTail k = revRows ∧ OwnRows 35 w.heap.size wr (.slice A R.length c) R ∧ Ext w wr)) (fun _ i _ => (intOf i).toNat)
  case atStart => exact ⟨7, [onesOf 255], _, _, by omega, rfl, rfl, rfl, hO0.out, hE1.out⟩
  case round =>
    obtain ⟨k, R, A, c, hk, rfl, rfl, hI⟩ := hrel
    clear hO0 hE1
    match k, hk, hI with
    | 0, hk, hI =>
      have e : R = revRows := by have := hI.out.1; rwa [revTail, List.append_nil] at this
      subst e
      go_wp2
      go_ret
      exact ⟨A, c, rfl, hI.out.2.1, hI.out.2.2⟩
    | k + 1, hk, hI =>
      have hT : Hid (R ++ [minusOne (k + 1)] ++ revTail k = revRows) := by have := hI.out.1; rw [revTail] at this; rw [← this]; show _ ++ _ ++ _ = _; rw [List.append_assoc]; rfl
      have hl : R.length ≤ 8 := by have := congrArg List.length hI.out.1; rw [revRows_length, List.length_append, revTail_length] at this; omega
      have hd0 : decide (0 < k + 1) = true := by simp
      have hk2 : ((k + 1 : Nat) : Int) - 1 = k := by omega
      obtain ⟨n, hn⟩ : ∃ n, n = k + 1 := ⟨_, rfl⟩
      have hn7 : n < 8 := by omega
      have hn0 : 0 < n := by omega
      rw [← hn] at hT hd0 hk2 ⊢
      replace hn := hide hn
      replace hk2 := hide hk2
      go_wp2_with fail
      refine (Runit_any n (-1) _ hn7).mono ?_
      rintro e w2 ⟨rfl, hE2⟩
      rw [pow_minus] at *
      obtain ⟨A', c', w', hrun, hO, hg⟩ := append_order (base := w.heap.size) (w := w2.alloc (.cells #[.int .i64 (minusOne n 0), .int .i64 (minusOne n 1), .int .i64 (minusOne n 2), .int .i64 (minusOne n 3), .int .i64 (minusOne n 4), .int .i64 (minusOne n 5), .int .i64 (minusOne n 6), .int .i64 (minusOne n 7)] 35)) (S := [minusOne n]) (x := .slice (some ⟨w2.heap.size, 0, none⟩) 1 1)
        ((hI.out.2.1.ext hE2).ext ((Ext.refl _).alloc _)) (OwnRows.blk (R := [minusOne n]) (c := 1) (base := 0) (g := w2.heap.size) (Nat.zero_le _) (Blk.new _ _ _) rfl (by simp)).rows (by simp) (by simp; omega) (by have := hI.out.2.2.size; have := hE2.size; simp; omega)
      have hE3 : Hid (Ext w w') := ((hI.out.2.2.trans hE2).alloc _).grown' hg hI.out.2.1.base_le
      replace hrun := hide hrun
      replace hO := hide hO
      clear hg
      go_wp2_with (at_builtin; go_loud (refine wpList_append_run rfl _ _ _ rfl _ _ rfl rfl hrun.out ?_))
      exact ⟨⟨k, R ++ [minusOne n], A', c', by omega, by rw [hk2.out], by simp, hT.out, by simpa using hO.out, hE3.out⟩, by have := hn.out; simp [intOf]; omega⟩

/-- A slice of rows in memory of one's own. -/
def OwnV (base : Nat) (v : Value) (w : World) (R : List (Nat → Int)) : Prop := ∃ A c, v = .slice A R.length c ∧ OwnRows 35 base w (.slice A R.length c) R
theorem OwnV.ext {base : Nat} {v : Value} {w w' : World} {R : List (Nat → Int)} (h : OwnV base v w R) (he : Ext w w') : OwnV base v w' R := by
  obtain ⟨A, c, h1, h2⟩ := h
  exact ⟨A, c, h1, h2.ext he⟩
theorem onesOf_upTo (m k : Nat) : upTo (onesOf m) (k + 1) k = onesOf m k := upTo_lt (by omega)
theorem Blk.skip8 {w : World} {g : Nat} {t : TypeId} {a : Nat → Int} {k : Nat} (h : Blk w g t (Go.Proofs.YteefhmdameeoaaaGreat.c8 (upTo a k))) (hz : a k = 0) : Blk w g t (Go.Proofs.YteefhmdameeoaaaGreat.c8 (upTo a (k + 1))) := by
  rw [c8_congr (b := upTo a k) fun i _ => ?_]
  · exact h
  · by_cases h1 : i < k
    · rw [upTo_lt h1, upTo_lt (by omega)]
    · rw [upTo_ge h1]
      by_cases h2 : i = k
      · rw [h2, upTo_lt (by omega), hz]
      · rw [upTo_ge (by omega)]
set_option maxRecDepth 100000 in
set_option maxHeartbeats 1600000 in
theorem REliminating_any (m : Nat) (w : World) (hm : m < 256) : Calls Tryz.prog 28 #[.int .u8 m] w (RetOrder (onesOf m :: revRows) w) := by
  go_enter Tryz.func28, Tryz.ntmps28
  go_wp2
  go_loopw [4] (fun i wr => ∃ k : Nat, k ≤ 8 ∧ i = .int .i64 k ∧ Hid (Blk wr w.heap.size 35 (c8 (upTo (onesOf m) k)) ∧ Ext w wr)) (fun i _ => 8 - (intOf i).toNat)
  case atStart => exact ⟨0, by omega, rfl, Blk.new _ _ _, (Ext.refl _).alloc _⟩
  case round =>
    obtain ⟨k, hk, rfl, hI⟩ := hrel
    by_cases hlt : k < 8
    · have hd8 : decide ((k : Int) < 8) = true := by simp; omega
      go_wp2_with fail
      refine (In_any m k _ hm hlt).mono ?_
      rintro e _ ⟨rfl, rfl⟩
      have hob := hide (onesOf_bit (m := m) (i := k))
      cases hb : m.testBit k with
      | true =>
        have h1 : Hid (onesOf m k = 1) := by rw [hob.out, hb]; rfl
        have hc1 := hI.out.1.at8 hlt
        have hz1 := hI.out.1.frozen k
        replace hb := hide hb
        clear hob
        go_wp2
        exact ⟨⟨k + 1, hlt, by simp, hI.out.1.up8 hlt h1.out.symm, hI.out.2.set (p := ⟨w.heap.size, k, none⟩) (Nat.le_refl _) _⟩, by simp [intOf]; omega⟩
      | false =>
        have h1 : Hid (onesOf m k = 0) := by rw [hob.out, hb]; rfl
        replace hb := hide hb
        clear hob
        go_wp2
        exact ⟨⟨k + 1, hlt, by simp, hI.out.1.skip8 h1.out, hI.out.2⟩, by simp [intOf]; omega⟩
    · obtain rfl : k = 8 := by omega
      have hB := hide hI.out.1.full8
      have hEw := hide hI.out.2
      clear hI
      have hd8 : decide (((8 : Nat) : Int) < 8) = false := by simp
      go_upto_region 7 with (fail)
      obtain ⟨B3, hB3⟩ : ∃ B3, B3 = w.heap.size := ⟨_, rfl⟩
      rw [← hB3] at hB ⊢
      replace hB3 := hide hB3
      refine wp_region_v (by kernel_rfl) [[], [(15, 0)], []] [[], [0], []]
        [fun v _ => v = .agg #[.int .i64 (onesOf m 0), .int .i64 (onesOf m 1), .int .i64 (onesOf m 2), .int .i64 (onesOf m 3), .int .i64 (onesOf m 4), .int .i64 (onesOf m 5), .int .i64 (onesOf m 6), .int .i64 (onesOf m 7)], fun v w' => OwnV w.heap.size v w' [onesOf m], fun v w' => OwnV w.heap.size v w' revRows]
        rfl (by kernel_rfl) (by kernel_rfl) ?stab ?steps ?fin
      case stab => exact .cons (Stab.eq _) (.cons (fun _ _ _ he h => h.ext he) (.cons (fun _ _ _ he h => h.ext he) .nil))
      case steps =>
        refine .cons ?s0 (.cons ?s1 (.cons ?s2 .nil))
        case s0 =>
          intro w' ev hE hk ha hc hf
          have e3 : ev (.tmp 3) = .pointer (some ⟨B3, 0, none⟩) := ha 3 (by decide)
          have c0 : w'.cell? ⟨B3, 0, none⟩ = some (.int .i64 (onesOf m 0)) := hE.cellv (hB.out.cell 0)
          have c1 : w'.cell? ⟨B3, 1, none⟩ = some (.int .i64 (onesOf m 1)) := hE.cellv (hB.out.cell 1)
          have c2 : w'.cell? ⟨B3, 2, none⟩ = some (.int .i64 (onesOf m 2)) := hE.cellv (hB.out.cell 2)
          have c3 : w'.cell? ⟨B3, 3, none⟩ = some (.int .i64 (onesOf m 3)) := hE.cellv (hB.out.cell 3)
          have c4 : w'.cell? ⟨B3, 4, none⟩ = some (.int .i64 (onesOf m 4)) := hE.cellv (hB.out.cell 4)
          have c5 : w'.cell? ⟨B3, 5, none⟩ = some (.int .i64 (onesOf m 5)) := hE.cellv (hB.out.cell 5)
          have c6 : w'.cell? ⟨B3, 6, none⟩ = some (.int .i64 (onesOf m 6)) := hE.cellv (hB.out.cell 6)
          have c7 : w'.cell? ⟨B3, 7, none⟩ = some (.int .i64 (onesOf m 7)) := hE.cellv (hB.out.cell 7)
          exact opStep_val (by simp [execOp, e3, c0, c1, c2, c3, c4, c5, c6, c7, go_sem]) rfl
        case s1 =>
          intro w' ev hE hk ha hc hf
          have e15 : ev (.tmp 15) = .agg #[.int .i64 (onesOf m 0), .int .i64 (onesOf m 1), .int .i64 (onesOf m 2), .int .i64 (onesOf m 3), .int .i64 (onesOf m 4), .int .i64 (onesOf m 5), .int .i64 (onesOf m 6), .int .i64 (onesOf m 7)] := hk.1 _ rfl
          exact opStep_grow (by simp [execOp, e15, go_sem]) ((Ext.refl _).alloc _) ⟨_, _, rfl, OwnRows.blk (w := w'.alloc (.cells #[.int .i64 (onesOf m 0), .int .i64 (onesOf m 1), .int .i64 (onesOf m 2), .int .i64 (onesOf m 3), .int .i64 (onesOf m 4), .int .i64 (onesOf m 5), .int .i64 (onesOf m 6), .int .i64 (onesOf m 7)] 35)) (R := [onesOf m]) (Nat.le_trans hEw.out.size hE.size) (Blk.new _ _ _) rfl (by simp)⟩
        case s2 =>
          intro w' ev hE hk ha hc hf
          refine opStep_call (by simp [execOp, resolve, invoke, hf, go_sem]) (RReverse_any _) ?_
          rintro e w1 ⟨A, c, rfl, hO, hE1⟩
          exact ⟨_, rfl, hE1, ⟨A, c, rfl, hO.base_mono (Nat.le_trans hEw.out.size hE.size)⟩⟩
      case fin =>
        intro gf w' hE hF
        have f1 := hF 1 _ rfl
        have f2 := hF 2 _ rfl
        obtain ⟨A1, c1, e1, hO1⟩ := f1
        obtain ⟨A2, c2, e2, hO2⟩ := f2
        simp only [List.length_cons, List.length_nil, Nat.reduceAdd, List.drop_succ_cons, List.drop_zero, List.take_succ_cons, List.take_zero, putG, Act.put, List.setIfInBounds_toArray, List.set_cons_succ, List.set_cons_zero, e1, e2]
        replace hE := (Ext.refl wr).drew.trans hE
        have hsz := hE.size
        have hsw := hEw.out.size
        obtain ⟨A', c', w2, hrun, hO', hg⟩ := append_order (base := w.heap.size) (w := w') (v := .slice A1 1 c1) (R := [onesOf m]) (S := revRows) (x := .slice A2 revRows.length c2) hO1 hO2.rows (by rw [revRows_length]; omega) (by rw [revRows_length]; simp) (by omega)
        have hE4 : Hid (Ext w w2) := (hEw.out.trans hE).grown' hg hO1.base_le
        replace hrun := hide hrun
        replace hO' := hide hO'
        replace hO1 := hide hO1
        replace hO2 := hide hO2
        replace hE := hide hE
        clear hg hF e1 e2
        go_wp2_with (at_builtin; go_loud (refine wpList_append_run rfl _ _ _ rfl _ _ rfl rfl hrun.out ?_))
        go_ret
        refine ⟨A', c', ?_, ?_, hE4.out⟩
        · rw [List.length_cons, Nat.add_comm]; rfl
        · have := hO'.out; rw [List.length_cons, Nat.add_comm]; exact this

end Go.Proofs.YteefhmdameeoaaaGreat
