/-
  The contract of the reference's divided.
-/
import Derived.Test.YteefhmdameeoaaaGreatRefd
set_option linter.unusedSimpArgs false
set_option linter.unusedVariables false
namespace Go.Proofs.YteefhmdameeoaaaGreat
open Go.RowKit

theorem Words.cellAt {w : World} {b o n c : Nat} {l : List Nat} (h : Words w (.slice (some ⟨b, o, none⟩) n c) l) {i : Nat} (hi : i < l.length) : w.cell? ⟨b, o + i, none⟩ = some (.int .u32 (l.getD i 0 : Nat)) := by
  obtain ⟨A, c', hv, _, _, hx⟩ := h.open_
  cases hv
  obtain ⟨b', o', e, _, hcell⟩ := hx (by omega)
  cases e
  exact hcell i hi
theorem Rguess_at (b bv ov n cu cv P : Nat) (pre post u v : List Nat) (w : World) (hP : pre.length = P) (hW : Win w b pre u post) (hu : u.length = n + 1) (hv : v.length = n) (hn2 : 2 ≤ n) (hn : n ≤ 4398046511104) (su : Small u) (sv : Small v)
    (hvc : ∀ i, i < n → w.cell? ⟨bv, ov + i, none⟩ = some (.int .u32 (v.getD i 0 : Nat))) (hcu : n + 1 ≤ cu) (hcv : n ≤ cv) (htop : 2147483648 ≤ v.getD (n - 1) 0) (hlt : val u < BB * val v) :
    Calls Tryz.prog 132 #[.slice (some ⟨b, P, none⟩) (n + 1) cu, .slice (some ⟨bv, ov, none⟩) n cv] w (RetGuess w u v) := by
  subst hP
  exact Rguess_any b bv ov n cu cv pre post u v w hW hu hv hn2 hn su sv hvc hcu hcv htop hlt

set_option maxRecDepth 100000 in
set_option maxHeartbeats 800000 in
theorem Rdivided_lt (va vb : Value) (x y : Nat) (w : World) (ha : Words w va (digs x)) (hb : Words w vb (digs y)) (hlt : x < y) :
    Calls Tryz.prog 129 #[va, vb] w (RetDiv x y w) := by
  obtain ⟨A, n, c, rfl⟩ := ha.form
  replace ha := hide ha
  replace hb := hide hb
  have hcmp : cmpN x y < 0 := by unfold cmpN; rw [if_pos hlt]; omega
  replace hlt := hide hlt
  go_enter Tryz.func129, Tryz.ntmps129
  go_wp2_with fail
  refine (Rcompared_any _ _ _ _ _ ha.out hb.out).mono ?_
  rintro e w3 ⟨rfl, hE3⟩
  replace ha := hide (ha.out.ext hE3)
  replace hE3 := hide hE3
  go_wp2
  go_ret2
  refine ⟨_, _, _, _, _, _, rfl, ?_, ?_, hE3.out⟩
  · rw [Nat.div_eq_of_lt hlt.out, digs_zero]; exact Words.nil _ _ _ (by omega)
  · rw [Nat.mod_eq_of_lt hlt.out]; exact ha.out

set_option maxRecDepth 100000 in
set_option maxHeartbeats 800000 in
theorem Rdivided_one (va vb : Value) (x y : Nat) (w : World) (ha : Words w va (digs x)) (hb : Words w vb (digs y)) (hn : (digs x).length ≤ 4398046511104) (hge : y ≤ x) (h1 : (digs y).length = 1) :
    Calls Tryz.prog 129 #[va, vb] w (RetDiv x y w) := by
  have hcmp : ¬ cmpN x y < 0 := by unfold cmpN; rw [if_neg (by omega)]; split <;> omega
  obtain ⟨t, ht⟩ : ∃ t, digs y = [t] := by
    match hd : digs y, h1 with
    | [t], _ => exact ⟨t, rfl⟩
  have htv : Hid (y = t) := by
    show y = t
    rw [← val_digs y, ht]; simp [val]
  have htB : t < 4294967296 := by
    have := small_digs y t (by rw [ht]; simp)
    rwa [BB_eq] at this
  have ht0 : 0 < t := by
    have := digs_last_pos (y := y) (n := 0) h1
    rw [ht] at this
    simpa using this
  replace hn := hide hn
  replace hge := hide hge
  clear h1
  replace ha := hide ha
  replace hb := hide hb
  replace ht := hide ht
  go_enter Tryz.func129, Tryz.ntmps129
  go_wp2_with fail
  refine (Rcompared_any _ _ _ _ _ ha.out hb.out).mono ?_
  rintro e w3 ⟨rfl, hE3⟩
  have hW1 := hide (ha.out.ext hE3)
  have hW2 := hb.out.ext hE3
  replace hE3 := hide hE3
  rw [ht.out] at hW2
  obtain ⟨A2, c2, rfl, hc2, hm2, hx2⟩ := hW2.open_
  obtain ⟨b2, o2, rfl, hb2, hcell2⟩ := hx2 (by simp)
  replace hcell2 : w3.cell? ⟨b2, o2, none⟩ = some (.int .u32 (t : Nat)) := hcell2 0 (by simp)
  clear hx2 hW2
  go_wp2_with fail
  refine (Rshortly_any _ _ t _ hW1.out hn.out ht0 htB).mono ?_
  rintro e w4 ⟨v4, rfl, hW4, hE4⟩
  obtain ⟨A4, n4, c4, rfl⟩ := hW4.form
  replace hW4 := hide hW4
  replace hE4 := hide (hE3.out.trans hE4)
  have hrB : val (digs x) % t < 18446744073709551616 := by have := Nat.mod_lt (val (digs x)) ht0; omega
  replace hrB := hide hrB
  clear hcell2
  go_wp2_with fail
  refine (Rwords_any _ _ hrB.out).mono ?_
  rintro e w5 ⟨v5, rfl, hW5, hE5⟩
  obtain ⟨A5, n5, c5, rfl⟩ := hW5.form
  replace hW4 := hide (hW4.out.ext hE5)
  replace hW5 := hide hW5
  replace hE5 := hide (hE4.out.trans hE5)
  go_wp2
  go_ret2
  refine ⟨_, _, _, _, _, _, rfl, ?_, ?_, hE5.out⟩
  · have := hW4.out; rw [val_digs] at this; rw [htv.out]; exact this
  · have := hW5.out; rw [val_digs] at this; rw [htv.out]; exact this

set_option maxRecDepth 1000000 in
set_option maxHeartbeats 4000000 in
theorem Rdivided_big (va vb : Value) (x y : Nat) (w : World) (ha : Words w va (digs x)) (hb : Words w vb (digs y)) (hlen : (digs x).length ≤ 4398046511103) (hge : y ≤ x) (h2 : 2 ≤ (digs y).length) :
    Calls Tryz.prog 129 #[va, vb] w (RetDiv x y w) := by
  have hcmp : ¬ cmpN x y < 0 := by unfold cmpN; rw [if_neg (by omega)]; split <;> omega
  have hle := digs_length_mono hge
  obtain ⟨n, hn1⟩ : ∃ n, (digs y).length = n + 1 := ⟨(digs y).length - 1, by omega⟩
  obtain ⟨m, hm1⟩ : ∃ m, (digs x).length = m := ⟨_, rfl⟩
  have ht0 := digs_last_pos hn1
  have htB := small_getD (small_digs y) n
  generalize ht : (digs y).getD n 0 = t at *
  unfold BB at htB
  obtain ⟨D, hD⟩ : ∃ D, D = BB / (t + 1) := ⟨_, rfl⟩
  obtain ⟨hD0, hDB, hvl, htop⟩ := scaled_top hn1 ht ht0 hD
  have hquo : (4294967296 : Int) / ((t : Int) + 1) = (D : Int) := by rw [hD, BB_eq]; rfl
  have hul0 := scaled_len hm1 hDB
  have hy0 : 0 < y := by
    rcases Nat.eq_zero_or_pos y with h | h
    · rw [h, digs_zero] at hn1; simp at hn1
    · exact h
  have hxD : 0 < (digs (x * D)).length := by
    rcases Nat.eq_zero_or_pos (digs (x * D)).length with h | h
    · have := digs_length_zero.1 h
      have := Nat.mul_pos (show 0 < x by omega) hD0
      omega
    · exact h
  rw [hm1] at hlen hle
  rw [hn1] at hle h2
  have hn2 : 1 ≤ n := by omega
  clear h2
  unfold BB at hDB
  have hDl : Hid ((digs D).length ≤ 4398046511104) := by
    have h1 := val_lt (small_digs D)
    rw [val_digs] at h1
    show _ ≤ _
    rcases Nat.lt_or_ge 2 (digs D).length with h | h
    · exfalso
      obtain ⟨k, hk⟩ : ∃ k, (digs D).length = k + 1 := ⟨(digs D).length - 1, by omega⟩
      have e := val_full hk
      rw [val_digs] at e
      have h3 := digs_last_pos hk
      have h4 : BB ^ k * 1 ≤ BB ^ k * (digs D).getD k 0 := Nat.mul_le_mul_left _ h3
      have h5 : BB ≤ BB ^ k := by have := Nat.pow_le_pow_right BB_pos (show 1 ≤ k by omega); rwa [Nat.pow_one] at this
      have h6 := BB_eq
      omega
    · omega
  replace ht := hide ht
  replace hn1 := hide hn1
  replace hm1 := hide hm1
  replace hge := hide hge
  replace hD := hide hD
  replace hvl := hide hvl
  replace htop := hide htop
  replace hul0 := hide hul0
  replace hxD := hide hxD
  replace hy0 := hide hy0
  have hmk1 := fun W => run_make_words (m + 1) (by omega) .i64 .i64 W
  have hmk := fun W => run_make_words (m - (n + 1) + 1) (by omega) .i64 .i64 W
  have hsub : ((m - (n + 1) + 1 : Nat) : Int) = (m : Int) - ((n : Int) + 1) + 1 := by omega
  rw [hsub] at hmk
  simp only [Int.natCast_add, Int.natCast_one] at hmk1
  clear hsub
  replace ha := hide ha
  replace hb := hide hb
  go_enter Tryz.func129, Tryz.ntmps129
  go_wp2_with fail
  refine (Rcompared_any _ _ _ _ _ ha.out hb.out).mono ?_
  rintro e w1 ⟨rfl, hE1⟩
  have hW1 := ha.out.ext hE1
  have hW2 := hb.out.ext hE1
  replace hE1 := hide hE1
  clear ha hb
  obtain ⟨A1, c1, rfl, hc1, hm1', hx1⟩ := hW1.open_
  clear hx1
  obtain ⟨A2, c2, rfl, hc2, hm2, hx2⟩ := hW2.open_
  obtain ⟨b2, o2, rfl, hb2, hcell2⟩ := hx2 (by rw [hn1.out]; omega)
  replace hcell2 : w1.cell? ⟨b2, o2 + n, none⟩ = some (.int .u32 (t : Nat)) := by have := hcell2 n (by rw [hn1.out]; omega); rw [ht.out] at this; exact this
  clear hx2
  rw [hn1.out] at hc2 hW2 ⊢
  rw [hm1.out] at hc1 hW1 ⊢
  replace hW1 := hide hW1
  replace hW2 := hide hW2
  have hne1 : (((n + 1 : Nat) : Int) == 1) = false := by simp; omega
  go_wp2_with fail
  refine (Rwords_any D _ (by omega)).mono ?_
  rintro e w2 ⟨vd, rfl, hWd, hE2⟩
  replace hW1 := hide (hW1.out.ext hE2)
  replace hW2 := hide (hW2.out.ext hE2)
  replace hE2 := hide (hE1.out.trans hE2)
  replace hWd := hide hWd
  clear hE1 hcell2
  go_wp2_with fail
  refine (Rtimes_any _ _ _ _ _ hW2.out hWd.out (by rw [hn1.out]; omega) hDl.out).mono ?_
  rintro e w3 ⟨vv, rfl, hWv, hE3⟩
  rw [val_digs, val_digs] at hWv
  replace hW1 := hide (hW1.out.ext hE3)
  replace hE3 := hide (hE2.out.trans hE3)
  clear hE2 hWd hW2
  obtain ⟨Av, cv, rfl, hcv, hmv, hxv⟩ := hWv.open_
  obtain ⟨bv, ov, rfl, hbv, hcellv⟩ := hxv (by rw [hvl.out]; omega)
  rw [hvl.out] at hcv hWv ⊢
  replace hWv := hide hWv
  clear hxv
  have sv := hide (small_digs (y * D))
  have hvv : Hid (val (digs (y * D)) = y * D) := val_digs _
  generalize digs (y * D) = v at *
  have hBu0 : Hid (Blk (w3.alloc (.cells (wv (List.replicate (m + 1) 0)) 105)) w3.heap.size 105 (wv (List.replicate (m + 1) 0))) := Blk.new _ _ _
  have hEu : Hid (Ext w3 (w3.alloc (.cells (wv (List.replicate (m + 1) 0)) 105))) := (Ext.refl _).alloc _
  go_wp2_with fail
  generalize (w3.alloc (.cells (wv (List.replicate (m + 1) 0)) 105)) = w4 at *
  refine (Rwords_any D _ (by omega)).mono ?_
  rintro e w5 ⟨vd, rfl, hWd, hE5⟩
  replace hW1 := hide (hW1.out.ext (hEu.out.trans hE5))
  replace hBu0 := hide (hBu0.out.ext hE5)
  replace hEu := hide (hEu.out.trans hE5)
  replace hWd := hide hWd
  clear hE5
  go_wp2_with fail
  refine (Rtimes_any _ _ _ _ _ hW1.out hWd.out (by rw [hm1.out]; omega) hDl.out).mono ?_
  rintro e w6 ⟨vu, rfl, hWu, hE6⟩
  rw [val_digs, val_digs] at hWu
  replace hBu0 := hide (hBu0.out.ext hE6)
  replace hEu := hide (hEu.out.trans hE6)
  clear hE6 hWd hW1
  obtain ⟨Au, cu, rfl, hcu, hmu, _⟩ := hWu.open_
  have su0 := small_digs (x * D)
  have hvu0 : val (digs (x * D)) = x * D := val_digs _
  generalize digs (x * D) = u0 at *
  obtain ⟨w7, hcp, hBu, hOu⟩ := run_copy_words hBu0.out hWu hxD.out hul0.out
  obtain ⟨ul, hulE⟩ : ∃ ul, ul = u0 ++ List.replicate (m + 1 - u0.length) 0 := ⟨_, rfl⟩
  have hull : Hid (ul.length = m + 1) := by have := hul0.out; rw [hulE, List.length_append, List.length_replicate]; show _ = _; omega
  have sul : Hid (Small ul) := fun z hz => by
    rw [hulE] at hz
    rcases List.mem_append.1 hz with h | h
    · exact su0 z h
    · exact small_replicate _ z h
  have hvul : Hid (val ul = x * D) := by rw [hulE, val_append0 (val_zeros _), hvu0]; rfl
  rw [← hulE] at hBu
  have hbel : Hid (Below w3.heap.size w3 w7) := ⟨hOu.os.trans hEu.out.os, hOu.tape.trans hEu.out.tape, hOu.output.trans hEu.out.output, Nat.le_trans hEu.out.size hOu.size, fun i hi => (hOu.block i (Nat.lt_of_lt_of_le hi hEu.out.size) (by omega)).trans (hEu.out.block hi)⟩
  have hu0l := hide hul0.out
  replace hcp := hide hcp
  replace hBu := hide hBu
  clear hOu hBu0 hEu hWu su0 hvu0 hxD hul0 hulE
  have hgw := hE3.out.size
  generalize hgu : w3.heap.size = gu at *
  replace hgu := hide hgu
  go_upto_region 11 with (refine wpList_copy_go rfl _ _ _ rfl _ _ rfl rfl hcp.out ?_)
  clear hcp
  have hEq7 : Hid (Ext w3 w7) := by rw [← hgu.out] at hbel; exact hbel.out
  have hBu7 : Hid (Blk (w7.alloc (.cells (wv (List.replicate (m - (n + 1) + 1) 0)) 105)) gu 105 (wv ul)) := hBu.out.alloc _
  have hBq7 : Hid (Blk (w7.alloc (.cells (wv (List.replicate (m - (n + 1) + 1) 0)) 105)) w7.heap.size 105 (wv (List.replicate (m - (n + 1) + 1) 0))) := Blk.new _ _ _
  have hb7 : Hid (Below gu w3 (w7.alloc (.cells (wv (List.replicate (m - (n + 1) + 1) 0)) 105))) := Below.alloc hbel.out (by have := hbel.out.size; have := hgu.out; omega) _
  have hgq : gu < w7.heap.size := Blk.lt hBu.out
  have hstart := hide (scaled_start hm1.out hn1.out hle hull.out hvul.out hD0)
  go_upto_region 13 with (fail)
  generalize (w7.alloc (.cells (wv (List.replicate (m - (n + 1) + 1) 0)) 105)) = w8 at *
  generalize w7.heap.size = gq at *
  clear hbel hBu hmk hmk1 hEq7
  go_loopw [13] (fun i wr => ∃ (k : Nat) (U Q : List Nat), k ≤ m - (n + 1) + 1 ∧ i = .int .i64 ((k : Int) - 1) ∧ Hid (DvRel w3 wr gu gq ul v U Q m (n + 1) k)) (fun i _ => (intOf i + 1).toNat)
  case atStart =>
    refine ⟨m - (n + 1) + 1, ul, List.replicate (m - (n + 1) + 1) 0, Nat.le_refl _, by congr 1; omega, hull.out, sul.out, hBu7.out, by simp, small_replicate _, hBq7.out, ?_, rfl, ?_, hb7.out⟩
    · have : (List.replicate (m - (n + 1) + 1) 0).drop (m - (n + 1) + 1) = [] := List.drop_eq_nil_of_le (by simp)
      rw [this]; simp [val]
    · rw [hvv.out]; exact hstart.out
  case round =>
    obtain ⟨k, U, Q, hk, rfl, hR⟩ := hrel
    clear hBu7 hBq7 hb7 hstart
    by_cases hk0 : k = 0
    · subst hk0
      have hWq : Hid (Words wr (.slice (some ⟨gq, 0, none⟩) (m - (n + 1) + 1) (m - (n + 1) + 1)) Q) := by
        have := Words.of_blk (c := m - (n + 1) + 1) hR.out.2.2.2.2.2.1 hR.out.2.2.2.2.1 (by rw [hR.out.2.2.2.1]; omega) (by omega)
        rw [hR.out.2.2.2.1] at this
        exact this
      have hWu : Hid (Words wr (.slice (some ⟨gu, 0, none⟩) (m + 1) (m + 1)) U) := by
        have := Words.of_blk (c := m + 1) hR.out.2.2.1 hR.out.2.1 (by rw [hR.out.1]; omega) (by omega)
        rw [hR.out.1] at this
        exact this
      have hlU : Hid ((digs (val U)).length ≤ 4398046511104) := by
        have h1 := trimW_length U
        rw [trimW_eq_digs hR.out.2.1, hR.out.1] at h1
        show _ ≤ _
        omega
      have hfin : Hid (x / y = val Q ∧ val U / D = x % y) := by
        have h1 := hR.out.2.2.2.2.2.2.1
        have h2 := hR.out.2.2.2.2.2.2.2.2.1
        simp only [List.drop_zero] at h1 h2
        rw [hvul.out, hvv.out] at h1
        rw [hvv.out] at h2
        exact div_scale hD0 hy0.out h1 h2
      have hEw : Hid (Ext w wr) := hE3.out.trans (by have := hR.out.2.2.2.2.2.2.2.2.2; rw [← hgu.out] at this; exact this)
      go_wp2_with fail
      refine (Rtrim_any _ _ _ hWu.out).mono ?_
      rintro e w9 ⟨v9, rfl, hW9, hE9⟩
      rw [trimW_eq_digs hR.out.2.1] at hW9
      replace hWq := hide (hWq.out.ext hE9)
      replace hEw := hide (hEw.out.trans hE9)
      replace hW9 := hide hW9
      clear hE9 hWu
      go_wp2_with fail
      refine (Rshortly_any _ _ D _ hW9.out hlU.out hD0 hDB).mono ?_
      rintro e w10 ⟨v10, rfl, hW10, hE10⟩
      rw [val_digs, hfin.out.2] at hW10
      obtain ⟨A10, n10, c10, rfl⟩ := hW10.form
      replace hWq := hide (hWq.out.ext hE10)
      replace hEw := hide (hEw.out.trans hE10)
      replace hW10 := hide hW10
      clear hE10 hW9
      go_wp2_with fail
      refine (Rtrim_any _ _ _ hWq.out).mono ?_
      rintro e w11 ⟨v11, rfl, hW11, hE11⟩
      rw [trimW_eq_digs hR.out.2.2.2.2.1, ← hfin.out.1] at hW11
      obtain ⟨A11, n11, c11, rfl⟩ := hW11.form
      replace hW10 := hide (hW10.out.ext hE11)
      replace hEw := hide (hEw.out.trans hE11)
      replace hW11 := hide hW11
      clear hE11 hWq
      go_wp2
      go_ret2
      exact ⟨_, _, _, _, _, _, rfl, hW11.out, hW10.out, hEw.out⟩
    · obtain ⟨k, rfl⟩ : ∃ q, k = q + 1 := ⟨k - 1, by omega⟩
      have hq1 : ((k + 1 : Nat) : Int) - 1 = k := by omega
      rw [hq1]
      clear hq1
      obtain ⟨X, post, hx1, hx2, hx3, hx4, hx5, hx6, hx7, hx8⟩ := hR.out.window (by omega) hvl.out sv.out
      replace hx1 := hide hx1
      replace hx2 := hide hx2
      replace hx3 := hide hx3
      replace hx4 := hide hx4
      replace hx5 := hide hx5
      replace hx6 := hide hx6
      replace hx7 := hide hx7
      replace hx8 := hide hx8
      have hVo : Hid (∀ wz, Only gu wr wz → Words wz (.slice (some ⟨bv, ov, none⟩) (n + 1) cv) v) := hide fun wz hO => hWv.out.old fun i hi => by
        have hig : i < gu := by rw [← hgu.out]; exact hi
        exact (hO.block i (by have := Blk.lt hR.out.2.2.1; omega) (by omega)).trans (hR.out.2.2.2.2.2.2.2.2.2.block i hig)
      have hvc : Hid (∀ i, i < n + 1 → wr.cell? ⟨bv, ov + i, none⟩ = some (.int .u32 (v.getD i 0 : Nat))) := hide fun i hi => (hVo.out wr (Only.refl _ _)).cellAt (by rw [hvl.out]; exact hi)
      go_wp2_with fail
      rw [show k + (n + 1) + 1 - k = n + 1 + 1 by omega]
      refine (Rguess_at gu bv ov (n + 1) _ _ k (U.take k) post X v wr hx8.out hx3.out hx1.out hvl.out (by omega) (by omega) hx2.out sv.out hvc.out (by omega) hcv htop.out hx4.out).mono ?_
      rintro e w9 ⟨q, rfl, hq, hQ1, hQ2, hE9⟩
      have hqB : q < 4294967296 := by rwa [BB_eq] at hq
      have hO9 : Hid (Only gu wr w9) := (Only.refl _ _).ext hE9
      have hW9 := hide (hx3.out.ext hE9)
      replace hQ1 := hide hQ1
      replace hQ2 := hide hQ2
      replace hq := hide hq
      clear hvc hE9
      go_wp2_with fail
      refine (Rlessen_any gu (n + 1 + 1) _ _ (U.take k) post X v q k w9 hx8.out hW9.out hx1.out (by rw [hvl.out]; omega) (by omega) hx2.out sv.out (fun wz hO => hVo.out wz (hO9.out.trans hO)) (by omega) hq.out).mono ?_
      rintro e w10 ⟨X1, rfl, hl1, s1, hW10, hO10, hv1⟩
      replace hO10 := hide (hO9.out.trans hO10)
      rw [hx1.out] at hl1 hv1
      clear hO9 hW9
      have hqs : (q : Int) % 4294967296 = (q : Int) := by omega
      by_cases hbig : val X < q * val v
      · have hdb : decide (val X < q * val v) = true := by simpa using hbig
        rw [if_pos hbig, Nat.mul_one] at hv1
        have hq1 : 1 ≤ q := by
          rcases Nat.eq_zero_or_pos q with h | h
          · rw [h, Nat.zero_mul] at hbig; omega
          · exact h
        rw [hdb]
        replace hl1 := hide hl1
        replace s1 := hide s1
        replace hW10 := hide hW10
        replace hv1 := hide hv1
        replace hbig := hide hbig
        clear hdb hqs
        go_wp2_with fail
        refine (Rrestore_any gu (n + 1 + 1) _ _ (U.take k) post X1 v k w10 hx8.out hW10.out hl1.out (by rw [hvl.out]; omega) (by omega) s1.out sv.out (fun wz hO => hVo.out wz (hO10.out.trans hO)) (by omega)).mono ?_
        rintro e w11 ⟨X2, c, rfl, hl2, s2, hW11, hO11, hv2, hc⟩
        replace hO11 := hide (hO10.out.trans hO11)
        rw [hl1.out] at hl2 hv2
        have hstp : Hid (val X2 + (q - 1) * val v = val X ∧ val X2 < val v) := by
          have hb2 := val_lt s2
          rw [hl2] at hb2
          have e1 : (q - 1) * val v + val v = q * val v := by
            obtain ⟨a, rfl⟩ : ∃ a, q = a + 1 := ⟨q - 1, by omega⟩
            rw [Nat.add_sub_cancel, Nat.add_mul, Nat.one_mul]
          have h1 := hv1.out
          have h3 := hbig.out
          have h4 := hQ2.out
          have hc1 : c = 1 := by
            rcases Nat.eq_zero_or_pos c with h | h
            · subst h; omega
            · omega
          subst hc1
          rw [Nat.mul_one] at hv2
          exact ⟨by omega, by omega⟩
        have hBq : Blk w11 gq 105 (wv Q) := (hO11.out.block _ (Blk.lt hR.out.2.2.2.2.2.1) (by omega)).trans hR.out.2.2.2.2.2.1
        have hstc : w11.cell? ⟨gq, k, none⟩ = some (.int .u32 (Q.getD k 0 : Nat)) := by rw [hBq.cell, wv_getD (by rw [hR.out.2.2.2.1]; omega)]
        have hfz := hBq.frozen k
        have hstep := hide (hR.out.step (by omega) hull.out hx1.out hx6.out hx8.out hx5.out hx7.out hl2 s2 hW11 hO11.out (q := q - 1) (by rw [BB_eq]; omega) hstp.out.1 hstp.out.2 hgq (e := ((q - 1 : Nat) : Int)) rfl)
        obtain ⟨Z, hZ⟩ : ∃ Z, q = Z + 1 := ⟨q - 1, by omega⟩
        have hZ1 : ((q : Int) - 1) = (Z : Int) := by omega
        have hZ2 : (Z : Int) % 4294967296 = (Z : Int) := by omega
        rw [show q - 1 = Z by omega] at hstep
        clear hl2 s2 hW11 hO11 hv2 hc hBq
        subst hZ
        go_wp2
        exact ⟨⟨k, _, _, by omega, rfl, hstep.out⟩, by simp [intOf]⟩
      · have hdb : decide (val X < q * val v) = false := by simpa using hbig
        rw [if_neg hbig, Nat.mul_zero, Nat.add_zero] at hv1
        rw [hdb]
        have hltv : val X1 < val v := by
          have hpos : 0 < val v := by have := hx4.out; rcases Nat.eq_zero_or_pos (val v) with h | h; rw [h] at this; omega; exact h
          have h7 : val X < (val X / val v + 1) * val v := by
            rw [Nat.mul_comm]; exact Nat.lt_mul_div_succ (val X) hpos
          have h8 : (val X / val v + 1) * val v ≤ (q + 1) * val v := Nat.mul_le_mul_right _ (by have := hQ1.out; omega)
          rw [Nat.add_mul q, Nat.one_mul] at h8
          omega
        have hBq : Blk w10 gq 105 (wv Q) := (hO10.out.block _ (Blk.lt hR.out.2.2.2.2.2.1) (by omega)).trans hR.out.2.2.2.2.2.1
        have hstc : w10.cell? ⟨gq, k, none⟩ = some (.int .u32 (Q.getD k 0 : Nat)) := by rw [hBq.cell, wv_getD (by rw [hR.out.2.2.2.1]; omega)]
        have hfz := hBq.frozen k
        have hstep := hide (hR.out.step (by omega) hull.out hx1.out hx6.out hx8.out hx5.out hx7.out hl1 s1 hW10 hO10.out hq.out hv1 hltv hgq (e := ((q : Nat) : Int)) rfl)
        clear hl1 s1 hW10 hO10 hv1 hBq hltv hbig hdb
        go_wp2
        exact ⟨⟨k, _, _, by omega, rfl, hstep.out⟩, by simp [intOf]⟩

theorem Rdivided_any (va vb : Value) (x y : Nat) (w : World) (ha : Words w va (digs x)) (hb : Words w vb (digs y)) (hn : (digs x).length ≤ 4398046511103) (h0 : y ≠ 0) :
    Calls Tryz.prog 129 #[va, vb] w (RetDiv x y w) := by
  rcases Nat.lt_or_ge x y with h | h
  · exact Rdivided_lt va vb x y w ha hb h
  · by_cases h1 : (digs y).length = 1
    · exact Rdivided_one va vb x y w ha hb (by omega) h h1
    · have h2 : (digs y).length ≠ 0 := fun e => h0 (digs_length_zero.1 e)
      exact Rdivided_big va vb x y w ha hb hn h (by omega)

end Go.Proofs.YteefhmdameeoaaaGreat
