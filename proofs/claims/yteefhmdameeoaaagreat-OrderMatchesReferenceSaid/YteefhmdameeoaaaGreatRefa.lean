/-
  Contracts of the reference's integers, on lists of words: trim, made, word, words, added.
-/
import Derived.Test.YteefhmdameeoaaaGreatP1
set_option linter.unusedSimpArgs false
set_option linter.unusedVariables false
namespace Go.Proofs.YteefhmdameeoaaaGreat
open Go.RowKit

set_option maxRecDepth 100000 in
set_option maxHeartbeats 400000 in
theorem Rtrim_any (v : Value) (l : List Nat) (w : World) (h : Words w v l) :
    Calls Tryz.prog 114 #[v] w fun e w' => ∃ v', e = .returned v' ∧ Words w' v' (trimW l) ∧ Ext w w' := by
  obtain ⟨A, c, rfl, hc, hm, hx⟩ := h.open_
  have H := hide h
  have hs := hide h.small
  clear h
  have hA := hide hx
  clear hx
  obtain ⟨n, hn⟩ : ∃ n, n = l.length := ⟨_, rfl⟩
  rw [← hn] at hc ⊢
  have hn' := hide hn
  clear hn
  go_enter Tryz.func114, Tryz.ntmps114
  go_wp2
  go_loop [3] (fun t => ∃ k : Nat, k ≤ n ∧ t = .int .i64 k ∧ Hid (trimW l = trimW (l.take k))) (fun t => (intOf t).toNat)
  case atStart => exact ⟨n, Nat.le_refl _, rfl, by rw [hn'.out, List.take_length]; rfl⟩
  case round =>
    obtain ⟨k, hk, rfl, hR⟩ := hrel
    by_cases hk0 : k = 0
    · subst hk0
      go_wp2
      go_ret
      refine ⟨_, rfl, ?_, Ext.refl _⟩
      have h2 := H.out.take (k := 0) (Nat.zero_le _)
      rw [hR.out]
      exact h2
    · have hlt : 0 < k := by omega
      obtain ⟨b, o, rfl, hb, hcell⟩ := hA.out (by rw [← hn'.out]; omega)
      have hcell := hcell (k - 1) (by rw [← hn'.out]; omega)
      have hki : ((k : Int) - 1).toNat = k - 1 := by omega
      by_cases hz : l.getD (k - 1) 0 = 0
      · rw [hz] at hcell
        have hz := hide hz
        go_wp2
        go_round
        case rel => exact ⟨k - 1, by omega, by go_num, by
          have h2 : k - 1 < l.length := by rw [← hn'.out]; omega
          have h3 : l[k - 1] = 0 := by have := hz.out; simpa [h2] using this
          have h4 := trimW_take h2 h3
          rw [show k - 1 + 1 = k by omega] at h4
          exact hR.out.trans h4⟩
        case measure => simp [intOf]; omega
      · have hz' : ((l.getD (k - 1) 0 : Nat) : Int) ≠ 0 := by omega
        generalize hx : l.getD (k - 1) 0 = x at *
        have hx := hide hx
        have hzb : ((x : Int) == 0) = false := by simpa using hz
        go_wp2
        go_ret
        refine ⟨_, rfl, ?_, Ext.refl _⟩
        have h2 := H.out.take (k := k) (by rw [← hn'.out]; omega)
        have h2' : k - 1 < l.length := by rw [← hn'.out]; omega
        have h3 : l[k - 1] ≠ 0 := by have := hx.out; simp [h2'] at this; omega
        have h4 := trimW_take_ne h2' h3
        rw [show k - 1 + 1 = k by omega] at h4
        rw [hR.out, h4]
        exact h2

theorem small_nil : Small [] := fun x h => by cases h
set_option maxRecDepth 100000 in
set_option maxHeartbeats 400000 in
theorem Rmade_any (neg : Bool) (v : Value) (l : List Nat) (w : World) (h : Words w v l) :
    Calls Tryz.prog 93 #[.bool neg, v] w fun e w' => RetInt (sgn neg (val l)) w e w' := by
  have hs := hide h.small
  have H := hide h
  clear h
  go_enter Tryz.func93, Tryz.ntmps93
  go_wp2_with fail
  refine (Rtrim_any _ _ _ (H.out.ext ((Ext.refl _).alloc _))).mono ?_
  rintro e w1 ⟨v', rfl, hv', hE⟩
  rw [trimW_eq_digs hs.out] at hv'
  obtain ⟨A, c, rfl, hc, hm, hx⟩ := hv'.open_
  replace hx := hide hx
  obtain ⟨hcell, hfr⟩ := hE.cells
  by_cases h0 : (digs (val l)).length = 0
  · have hv0 := hide (digs_length_zero.1 h0)
    generalize hn : (digs (val l)).length = n at *
    subst h0
    replace hn := hide hn
    have hd : Hid (digs (val l) = []) := by rw [hv0.out]; exact digs_zero
    rw [hd.out] at hv'
    replace hv' := hide hv'
    cases neg with
    | false =>
      go_wp2
      refine bodyPost_ret (v := .agg #[.bool false, .slice A 0 c]) (by simp [results, Tryz.results93, go_sem, hcell]) rfl ⟨_, _, _, _, rfl, ⟨?_, ?_⟩, ?_⟩
      · rw [hv0.out, sgn_zero]; rfl
      · rw [hv0.out, sgn_zero]
        show Words _ _ (digs 0)
        rw [digs_zero]
        have ht := (Ty.new w #[Value.bool false, Value.slice none 0 0] 72).ext hE
        exact (hv'.out.set ht (by decide) _).set (ht.set _ _) (by decide) _
      · exact ((((Ext.refl _).alloc _).trans hE).set (Nat.le_refl _) _).set (Nat.le_refl _) _
    | true =>
      go_wp2
      refine bodyPost_ret (v := .agg #[.bool false, .slice A 0 c]) (by simp [results, Tryz.results93, go_sem, hcell]) rfl ⟨_, _, _, _, rfl, ⟨?_, ?_⟩, ?_⟩
      · rw [hv0.out, sgn_zero]; rfl
      · rw [hv0.out, sgn_zero]
        show Words _ _ (digs 0)
        rw [digs_zero]
        have ht := (Ty.new w #[Value.bool false, Value.slice none 0 0] 72).ext hE
        exact (hv'.out.set ht (by decide) _).set (ht.set _ _) (by decide) _
      · exact ((((Ext.refl _).alloc _).trans hE).set (Nat.le_refl _) _).set (Nat.le_refl _) _
  · have hv0 := hide (fun e => h0 (digs_length_zero.2 e))
    have hne : decide ((0 : Int) < ((digs (val l)).length : Int)) = true := by simp; omega
    have hne2 : 0 < (digs (val l)).length := by omega
    replace hv' := hide hv'
    generalize hn : (digs (val l)).length = n at *
    replace hn := hide hn
    cases neg with
    | false =>
      go_wp2
      refine bodyPost_ret (v := .agg #[.bool false, .slice A n c]) (by simp [results, Tryz.results93, go_sem, hcell]) rfl ⟨_, _, _, _, rfl, ⟨?_, ?_⟩, ?_⟩
      · rw [sgn_neg hv0.out]
      · rw [sgn_natAbs]
        have ht := (Ty.new w #[Value.bool false, Value.slice none 0 0] 72).ext hE
        exact (hv'.out.set ht (by decide) _).set (ht.set _ _) (by decide) _
      · exact ((((Ext.refl _).alloc _).trans hE).set (Nat.le_refl _) _).set (Nat.le_refl _) _
    | true =>
      go_wp2
      refine bodyPost_ret (v := .agg #[.bool true, .slice A n c]) (by simp [results, Tryz.results93, go_sem, hcell]) rfl ⟨_, _, _, _, rfl, ⟨?_, ?_⟩, ?_⟩
      · rw [sgn_neg hv0.out]
      · rw [sgn_natAbs]
        have ht := (Ty.new w #[Value.bool false, Value.slice none 0 0] 72).ext hE
        exact (hv'.out.set ht (by decide) _).set (ht.set _ _) (by decide) _
      · exact ((((Ext.refl _).alloc _).trans hE).set (Nat.le_refl _) _).set (Nat.le_refl _) _

set_option maxRecDepth 100000 in
theorem Rword_any (v : Value) (l : List Nat) (i : Nat) (w : World) (h : Words w v l) :
    Calls Tryz.prog 130 #[v, .int .i64 i] w fun e w' => e = .returned (.int .u64 (l.getD i 0 : Nat)) ∧ w = w' := by
  obtain ⟨A, c, rfl, hc, hm, hx⟩ := h.open_
  have hs := small_getD h.small i
  by_cases hi : i < l.length
  · obtain ⟨b, o, rfl, hb, hcell⟩ := hx (by omega)
    replace hcell := hcell i hi
    clear hx h
    generalize l.getD i 0 = x at *
    generalize l.length = n at *
    unfold BB at hs
    have hd : decide ((i : Int) < n) = true := by simpa using hi
    go_enter Tryz.func130, Tryz.ntmps130
    go_wp2
    go_ret
    exact ⟨rfl, rfl⟩
  · have h0 : Hid (l.getD i 0 = 0) := by simp [show l.length ≤ i by omega, Hid]
    clear hx h hs
    generalize l.length = n at *
    have hd : decide ((i : Int) < n) = false := by simp; omega
    go_enter Tryz.func130, Tryz.ntmps130
    go_wp2
    go_ret
    exact ⟨by rw [h0.out]; rfl, rfl⟩

theorem Rword_x (v : Value) (l : List Nat) (i x : Nat) (w : World) (h : Words w v l) (hx : l.getD i 0 = x) :
    Calls Tryz.prog 130 #[v, .int .i64 i] w fun e w' => e = .returned (.int .u64 (x : Nat)) ∧ w = w' := by
  subst hx; exact Rword_any v l i w h

set_option maxRecDepth 100000 in
set_option maxHeartbeats 400000 in
theorem Rwords_any (m : Nat) (w : World) (hm : m < 18446744073709551616) :
    Calls Tryz.prog 94 #[.int .u64 m] w fun e w' => ∃ v', e = .returned v' ∧ Words w' v' (digs m) ∧ Ext w w' := by
  have hW : Words (w.alloc (.cells (wv [m % BB, m / BB]) 105)) (.slice (some ⟨w.heap.size, 0, none⟩) 2 2) [m % BB, m / BB] :=
    Words.of_blk (l := [m % BB, m / BB]) (c := 2) (Blk.new _ _ _) (fun x hx => by
      simp at hx
      rcases hx with rfl | rfl
      · exact Nat.mod_lt _ BB_pos
      · exact Nat.div_lt_of_lt_mul (by rw [BB_eq]; omega)) (by simp) (by omega)
  have hv : Hid (val [m % BB, m / BB] = m) := by
    show m % BB + BB * (m / BB + BB * 0) = m
    rw [Nat.mul_zero, Nat.add_zero]
    exact Nat.mod_add_div m BB
  have e1 : Hid ((w.alloc (.cells (wv [m % BB, m / BB]) 105)) = w.alloc (.cells #[.int .u32 ((m : Int) % 4294967296), .int .u32 ((m : Int) / 4294967296)] 105)) := by
    simp [wv, BB_eq, Hid]
  have hW2 := hide hW
  have hS := hide hW.small
  rw [e1.out] at hW2
  clear hW
  go_enter Tryz.func94, Tryz.ntmps94
  go_wp2_with fail
  refine (Rtrim_any _ _ _ hW2.out).mono ?_
  rintro e w' ⟨v', rfl, hv', hE⟩
  go_wp2
  go_ret
  refine ⟨v', rfl, ?_, ((Ext.refl _).alloc _).trans hE⟩
  rw [trimW_eq_digs hS.out, hv.out] at hv'
  exact hv'

/-- The words of two numbers added. -/
def AddRel (w wr : World) (la lb r : List Nat) (n k cc : Nat) : Prop :=
  r.length = n ∧ Small r ∧ Blk wr w.heap.size 105 (wv r) ∧ val (r.take k) + BB ^ k * cc = val (la.take k) + val (lb.take k) ∧ Ext w wr
theorem AddRel.step {w wr : World} {la lb r : List Nat} {n k cc x y : Nat} (h : AddRel w wr la lb r n k cc) (hk : k < n) (hx : la.getD k 0 = x) (hy : lb.getD k 0 = y) (hxB : x < 4294967296) (hyB : y < 4294967296) (hc : cc ≤ 1) {u z : Int} (hu : u = ((x + cc + y) % BB : Nat)) (hz : z = ((x + cc + y) / BB : Nat)) :
    ∃ (k1 c1 : Nat) (r1 : List Nat), k1 ≤ n ∧ Value.int .i64 ((k : Int) + 1) = .int .i64 k1 ∧ Value.int .u64 z = .int .u64 c1 ∧ c1 ≤ 1 ∧ Hid (AddRel w (wr.setCell ⟨w.heap.size, k, none⟩ (.int .u32 u)) la lb r1 n k1 c1) := by
  obtain ⟨h1, h2, h3, h4, h5⟩ := h
  obtain ⟨e1, e2⟩ := sum_round (by omega) hx hy (by rw [BB_eq]; exact hxB) (by rw [BB_eq]; exact hyB) hc h4
  refine ⟨k + 1, (x + cc + y) / BB, r.set k ((x + cc + y) % BB), hk, by simp, by rw [hz], e2, by simpa using h1, small_set h2 k (Nat.mod_lt _ BB_pos), ?_, e1, ?_⟩
  · rw [hu, ← wv_set]
    exact h3.set k _
  · exact Below.setCell h5 (Nat.le_refl _) _
theorem AddRel.close {w wr : World} {la lb r : List Nat} {n cc : Nat} (h : AddRel w wr la lb r n n cc) (hn : la.length < n) (hm : lb.length < n) (hA : Small la) (hB : Small lb) : val r = val la + val lb := by
  obtain ⟨h1, h2, h3, h4, h5⟩ := h
  rw [List.take_of_length_le (show la.length ≤ n by omega), List.take_of_length_le (show lb.length ≤ n by omega), List.take_of_length_le (show r.length ≤ n by omega)] at h4
  have ba : val la < BB ^ (n - 1) := Nat.lt_of_lt_of_le (val_lt hA) (Nat.pow_le_pow_right BB_pos (by omega))
  have bb : val lb < BB ^ (n - 1) := Nat.lt_of_lt_of_le (val_lt hB) (Nat.pow_le_pow_right BB_pos (by omega))
  have e : BB ^ n = BB * BB ^ (n - 1) := by rw [← Nat.pow_succ']; congr 1; omega
  have e2 : 2 * BB ^ (n - 1) ≤ BB * BB ^ (n - 1) := Nat.mul_le_mul_right _ (by decide)
  rcases Nat.eq_zero_or_pos cc with h0 | h0
  · subst h0; omega
  · have : BB ^ n * 1 ≤ BB ^ n * cc := Nat.mul_le_mul_left _ h0
    omega
theorem run_max2 (a b : Nat) : (max (a : Int) (b : Int)) = ((max a b : Nat) : Int) := by omega
set_option maxRecDepth 100000 in
set_option maxHeartbeats 800000 in
theorem Radded_any (va vb : Value) (la lb : List Nat) (w : World) (ha : Words w va la) (hb : Words w vb lb) (hn : la.length ≤ 4398046511104) (hm : lb.length ≤ 4398046511104) :
    Calls Tryz.prog 124 #[va, vb] w fun e w' => ∃ v', e = .returned v' ∧ Words w' v' (digs (val la + val lb)) ∧ Ext w w' := by
  obtain ⟨A, c, rfl, hc, hm', hx⟩ := ha.open_
  obtain ⟨B, d, rfl, hd, hm'', hy⟩ := hb.open_
  have Ha := hide ha
  have Hb := hide hb
  clear ha hb hx hy
  have hsa := hide Ha.out.small
  have hsb := hide Hb.out.small
  have hsa' := hsa
  generalize hn1 : la.length = n at *
  generalize hm1 : lb.length = m at *
  replace hn1 := hide hn1
  replace hm1 := hide hm1
  clear hsa'
  rcases Nat.lt_or_ge n m with hnm | hnm
  · have hq1 : n ≤ m := by omega
    have hq2 : m ≤ m := by omega
    have hmk := fun W => run_make_words (m + 1) (by omega) .i64 .i64 W
    simp only [Int.natCast_add, Int.natCast_one] at hmk
    go_enter Tryz.func124, Tryz.ntmps124
    go_wp2
    go_loopw [7, 8] (fun cy i wr => ∃ (k cc : Nat) (r : List Nat), k ≤ m + 1 ∧ i = .int .i64 k ∧ cy = .int .u64 cc ∧ cc ≤ 1 ∧ Hid (AddRel w wr la lb r (m + 1) k cc)) (fun _ i _ => m + 1 - (intOf i).toNat)
    case atStart => exact ⟨0, 0, List.replicate (m + 1) 0, Nat.zero_le _, rfl, rfl, by omega, ⟨by simp, small_replicate _, Blk.new _ _ _, by simp [val], (Ext.refl _).alloc _⟩⟩
    case round =>
      obtain ⟨k, cc, r, hk, rfl, rfl, hcc, hR⟩ := hrel
      by_cases hlt : k < m + 1
      · have hdk : decide ((k : Int) < (m : Int) + 1) = true := by simp; omega
        have hxB := small_getD hsa.out k
        have hyB := small_getD hsb.out k
        have hst : wr.cell? ⟨w.heap.size, k, none⟩ = some (.int .u32 (r.getD k 0 : Nat)) := by rw [hR.out.2.2.1.cell, wv_getD (by rw [hR.out.1]; omega)]
        have hfz := hR.out.2.2.1.frozen k
        generalize hx : la.getD k 0 = x at *
        generalize hy : lb.getD k 0 = y at *
        replace hx := hide hx
        replace hy := hide hy
        unfold BB at hxB hyB
        go_wp2_with fail
        refine (Rword_x _ la k x _ (Ha.out.ext hR.out.2.2.2.2) hx.out).mono ?_
        rintro e w1 ⟨rfl, rfl⟩
        go_wp2_with fail
        refine (Rword_x _ lb k y _ (Hb.out.ext hR.out.2.2.2.2) hy.out).mono ?_
        rintro e w1 ⟨rfl, rfl⟩
        go_wp2
        exact ⟨hR.out.step hlt hx.out hy.out hxB hyB hcc (by rw [BB_eq]; omega) (by rw [BB_eq]; omega), by simp [intOf]; omega⟩
      · obtain rfl : k = m + 1 := by omega
        have hdk : decide (((m + 1 : Nat) : Int) < (m : Int) + 1) = false := by simp
        have hcl := hide (hR.out.close (by rw [hn1.out]; omega) (by rw [hm1.out]; omega) hsa.out hsb.out)
        have hW : Hid (Words wr (.slice (some ⟨w.heap.size, 0, none⟩) (m + 1) (m + 1)) r) := by
          have := Words.of_blk (c := m + 1) hR.out.2.2.1 hR.out.2.1 (by rw [hR.out.1]; omega) (by omega)
          rw [hR.out.1] at this
          exact this
        go_wp2_with (go_at_call 114; refine (Rtrim_any _ _ _ hW.out).mono ?_; rintro e w' ⟨v', rfl, hv', hE⟩)
        go_ret
        refine ⟨v', rfl, ?_, hR.out.2.2.2.2.trans hE⟩
        rw [trimW_eq_digs hR.out.2.1, hcl.out] at hv'
        exact hv'
  · have hq1 : n ≤ n := by omega
    have hq2 : m ≤ n := by omega
    have hnl : ¬ n < m := by omega
    have hmk := fun W => run_make_words (n + 1) (by omega) .i64 .i64 W
    simp only [Int.natCast_add, Int.natCast_one] at hmk
    go_enter Tryz.func124, Tryz.ntmps124
    go_wp2
    go_loopw [7, 8] (fun cy i wr => ∃ (k cc : Nat) (r : List Nat), k ≤ n + 1 ∧ i = .int .i64 k ∧ cy = .int .u64 cc ∧ cc ≤ 1 ∧ Hid (AddRel w wr la lb r (n + 1) k cc)) (fun _ i _ => n + 1 - (intOf i).toNat)
    case atStart => exact ⟨0, 0, List.replicate (n + 1) 0, Nat.zero_le _, rfl, rfl, by omega, ⟨by simp, small_replicate _, Blk.new _ _ _, by simp [val], (Ext.refl _).alloc _⟩⟩
    case round =>
      obtain ⟨k, cc, r, hk, rfl, rfl, hcc, hR⟩ := hrel
      by_cases hlt : k < n + 1
      · have hdk : decide ((k : Int) < (n : Int) + 1) = true := by simp; omega
        have hxB := small_getD hsa.out k
        have hyB := small_getD hsb.out k
        have hst : wr.cell? ⟨w.heap.size, k, none⟩ = some (.int .u32 (r.getD k 0 : Nat)) := by rw [hR.out.2.2.1.cell, wv_getD (by rw [hR.out.1]; omega)]
        have hfz := hR.out.2.2.1.frozen k
        generalize hx : la.getD k 0 = x at *
        generalize hy : lb.getD k 0 = y at *
        replace hx := hide hx
        replace hy := hide hy
        unfold BB at hxB hyB
        go_wp2_with fail
        refine (Rword_x _ la k x _ (Ha.out.ext hR.out.2.2.2.2) hx.out).mono ?_
        rintro e w1 ⟨rfl, rfl⟩
        go_wp2_with fail
        refine (Rword_x _ lb k y _ (Hb.out.ext hR.out.2.2.2.2) hy.out).mono ?_
        rintro e w1 ⟨rfl, rfl⟩
        go_wp2
        exact ⟨hR.out.step hlt hx.out hy.out hxB hyB hcc (by rw [BB_eq]; omega) (by rw [BB_eq]; omega), by simp [intOf]; omega⟩
      · obtain rfl : k = n + 1 := by omega
        have hdk : decide (((n + 1 : Nat) : Int) < (n : Int) + 1) = false := by simp
        have hcl := hide (hR.out.close (by rw [hn1.out]; omega) (by rw [hm1.out]; omega) hsa.out hsb.out)
        have hW : Hid (Words wr (.slice (some ⟨w.heap.size, 0, none⟩) (n + 1) (n + 1)) r) := by
          have := Words.of_blk (c := n + 1) hR.out.2.2.1 hR.out.2.1 (by rw [hR.out.1]; omega) (by omega)
          rw [hR.out.1] at this
          exact this
        go_wp2_with (go_at_call 114; refine (Rtrim_any _ _ _ hW.out).mono ?_; rintro e w' ⟨v', rfl, hv', hE⟩)
        go_ret
        refine ⟨v', rfl, ?_, hR.out.2.2.2.2.trans hE⟩
        rw [trimW_eq_digs hR.out.2.1, hcl.out] at hv'
        exact hv'

end Go.Proofs.YteefhmdameeoaaaGreat
