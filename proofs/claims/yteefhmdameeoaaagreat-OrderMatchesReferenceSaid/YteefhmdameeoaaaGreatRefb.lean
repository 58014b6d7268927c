/-
  Contracts of the reference's integers, on lists of words: taken, times, compared, shortly, number, euclid.
-/
import Derived.Test.YteefhmdameeoaaaGreatRefa
import Derived.Test.YteefhmdameeoaaaGreatP2
set_option linter.unusedSimpArgs false
set_option linter.unusedVariables false
namespace Go.Proofs.YteefhmdameeoaaaGreat
open Go.RowKit

theorem taken_num (x y cc : Nat) (hx : x < 4294967296) (hy : y < 4294967296) (hc : cc ≤ 1) :
    IntKind.u64.wrap (4294967296 + (x : Int)) = 4294967296 + (x : Int) ∧ IntKind.u64.wrap (4294967296 + (x : Int) - y) = 4294967296 + (x : Int) - y ∧ IntKind.u64.wrap (4294967296 + (x : Int) - y - cc) = 4294967296 + (x : Int) - y - cc ∧
    (4294967296 + (x : Int) - y - cc) % 4294967296 = ((x + BB * (if x < cc + y then 1 else 0) - cc - y : Nat) : Int) ∧ (4294967296 + (x : Int) - y - cc) % 4294967296 % 4294967296 = ((x + BB * (if x < cc + y then 1 else 0) - cc - y : Nat) : Int) ∧
    1 - (4294967296 + (x : Int) - y - cc) / 4294967296 = ((if x < cc + y then 1 else 0 : Nat) : Int) := by
  simp only [IntKind.wrap_u64, BB_eq]
  refine ⟨by omega, by omega, by omega, ?_, ?_, ?_⟩ <;> (split <;> omega)
theorem times_num (x y z cc : Nat) (hx : x < 4294967296) (hy : y < 4294967296) (hz : z < 4294967296) (hc : cc < 4294967296) :
    IntKind.u64.wrap ((x : Int) * y) = (x : Int) * y ∧ IntKind.u64.wrap ((x : Int) * y + z) = (x : Int) * y + z ∧ IntKind.u64.wrap ((x : Int) * y + z + cc) = (x : Int) * y + z + cc ∧ 0 ≤ (x : Int) * y ∧ 0 ≤ (x : Int) * y + z + cc ∧ (x : Int) * y + z + cc ≤ 18446744073709551615 := by
  have hp : (x : Int) * y ≤ 18446744065119617025 := by have := mul_bound hx hy; omega
  have hp0 : (0 : Int) ≤ (x : Int) * y := Int.mul_nonneg (by omega) (by omega)
  generalize (x : Int) * y = p at *
  simp only [IntKind.wrap_u64]
  omega
theorem DifRel.drewN {w wr : World} {la lb r : List Nat} {n k cc : Nat} (h : DifRel w wr la lb r n k cc) (q : Nat) : DifRel w (wr.drewN q) la lb r n k cc := ⟨h.1, h.2.1, h.2.2.1, h.2.2.2.1, h.2.2.2.2.drewN q⟩
set_option maxRecDepth 100000 in
set_option maxHeartbeats 1600000 in
theorem Rtaken_any (va vb : Value) (la lb : List Nat) (w : World) (ha : Words w va la) (hb : Words w vb lb) (hv : val lb ≤ val la) (hl : lb.length ≤ la.length) (hn : la.length ≤ 4398046511104) :
    Calls Tryz.prog 126 #[va, vb] w fun e w' => ∃ v', e = .returned v' ∧ Words w' v' (digs (val la - val lb)) ∧ Ext w w' := by
  obtain ⟨A, c, rfl, hc, hm, hx⟩ := ha.open_
  obtain ⟨B, d, rfl, hd, hm', hy⟩ := hb.open_
  have Ha := hide ha
  have Hb := hide hb
  have hsa := hide ha.small
  have hsb := hide hb.small
  clear ha hb
  have hA := hide hx
  have hB := hide hy
  clear hx hy
  replace hv := hide hv
  obtain ⟨n, hn1⟩ : ∃ n, n = la.length := ⟨_, rfl⟩
  obtain ⟨m, hm1⟩ : ∃ m, m = lb.length := ⟨_, rfl⟩
  rw [← hn1] at hc hl hn ⊢
  rw [← hm1] at hd hl ⊢
  replace hn1 := hide hn1
  replace hm1 := hide hm1
  have hmk := fun W => run_make_words n (by omega) .i64 .i64 W
  go_enter Tryz.func126, Tryz.ntmps126
  go_wp2
  go_loopw [6, 7] (fun cy i wr => ∃ (k cc : Nat) (r : List Nat), k ≤ n ∧ i = .int .i64 k ∧ cy = .int .u64 cc ∧ cc ≤ 1 ∧ Hid (DifRel w wr la lb r n k cc)) (fun _ i _ => n - (intOf i).toNat)
  case atStart => exact ⟨0, 0, List.replicate n 0, Nat.zero_le _, rfl, rfl, by omega, ⟨by simp, small_replicate _, Blk.new _ _ _, by simp [val], (Ext.refl _).alloc _⟩⟩
  case round =>
    obtain ⟨k, cc, r, hk, rfl, rfl, hcc, hR⟩ := hrel
    by_cases hlt : k < n
    · have hdk : decide ((k : Int) < n) = true := by simpa using hlt
      obtain ⟨b, o, rfl, hb, hcell⟩ := hA.out (by rw [← hn1.out]; omega)
      replace hcell := (hR.out.2.2.2.2.cell (p := ⟨b, o + k, none⟩) hb).trans (hcell k (by rw [← hn1.out]; omega))
      have hxB := small_getD hsa.out k
      have hyB := small_getD hsb.out k
      generalize hx : la.getD k 0 = x at *
      generalize hy : lb.getD k 0 = y at *
      replace hx := hide hx
      replace hy := hide hy
      unfold BB at hxB hyB
      have Hw : Hid (Words wr (.slice B m d) lb) := by rw [hm1.out]; exact Hb.out.ext hR.out.2.2.2.2
      have hnum := hide (taken_num x y cc hxB hyB hcc)
      have hi : ¬ n ≤ k := by omega
      have hcv : Hid (IntKind.u64.wrap (x : Int) = x) := hide (IntWalk.u64_in _ (by omega))
      have hg1 : (4294967296 : Int) + x - y - cc ≤ 8589934591 := by omega
      have hg2 : 0 ≤ (4294967296 : Int) + x - y - cc := by omega
      go_upto_region 6 with (fail)
      refine wp_region_v (by kernel_rfl) [[], [], [(18, 0), (19, 1)], [(20, 2)], [(21, 3)], [(22, 4)], [], [], [(24, 6), (25, 7)], [(23, 5), (26, 8)], [], [(27, 9), (28, 10)]] [[], [], [0, 1], [0, 1, 2], [0, 1, 2, 3], [0, 1, 2, 3, 4], [], [], [6, 7], [0, 1, 2, 3, 4, 5, 6, 7, 8], [], [0, 1, 2, 3, 4, 5, 6, 7, 8, 9, 10]]
        [fun v _ => v = .slice (some ⟨b, o, none⟩) n c, fun v _ => v = .int .i64 (k : Int), fun v _ => v = .pointer (some ⟨b, o + k, none⟩), fun v _ => v = .int .u32 (x : Int), fun v _ => v = .int .u64 (x : Int), fun v _ => v = .int .u64 (4294967296 + (x : Int)), fun v _ => v = .slice B m d, fun v _ => v = .int .i64 (k : Int), fun v _ => v = .int .u64 (y : Int), fun v _ => v = .int .u64 (4294967296 + (x : Int) - y), fun v _ => v = .int .u64 (cc : Int), fun v _ => v = .int .u64 (4294967296 + (x : Int) - y - cc)]
        rfl (by kernel_rfl) (by kernel_rfl) ?stab ?steps ?fin
      case stab => exact .cons (Stab.eq _) (.cons (Stab.eq _) (.cons (Stab.eq _) (.cons (Stab.eq _) (.cons (Stab.eq _) (.cons (Stab.eq _) (.cons (Stab.eq _) (.cons (Stab.eq _) (.cons (Stab.eq _) (.cons (Stab.eq _) (.cons (Stab.eq _) (.cons (Stab.eq _) .nil)))))))))))
      case steps =>
        refine .cons ?s0 (.cons ?s1 (.cons ?s2 (.cons ?s3 (.cons ?s4 (.cons ?s5 (.cons ?s6 (.cons ?s7 (.cons ?s8 (.cons ?s9 (.cons ?s10 (.cons ?s11 .nil)))))))))))
        case s0 =>
          intro w' ev hE hk ha hc hf
          have e0 : ev (.tmp 0) = .slice (some ⟨b, o, none⟩) n c := ha 0 (by decide)
          exact opStep_val (by simp [execOp, e0, go_sem]) rfl
        case s1 =>
          intro w' ev hE hk ha hc hf
          have e7 : ev (.tmp 7) = .int .i64 (k : Int) := ha 7 (by decide)
          exact opStep_val (by simp [execOp, e7, go_sem]) rfl
        case s2 =>
          intro w' ev hE hk ha hc hf
          have e18 : ev (.tmp 18) = .slice (some ⟨b, o, none⟩) n c := hk.1 _ rfl
          have e19 : ev (.tmp 19) = .int .i64 (k : Int) := hk.2.1 _ rfl
          exact opStep_val (by simp [execOp, e18, e19, hi, go_sem]) rfl
        case s3 =>
          intro w' ev hE hk ha hc hf
          have e20 : ev (.tmp 20) = .pointer (some ⟨b, o + k, none⟩) := hk.1 _ rfl
          have c0 : w'.cell? ⟨b, o + k, none⟩ = some (.int .u32 (x : Int)) := hE.cellv hcell
          exact opStep_val (by simp [execOp, e20, c0, go_sem]) rfl
        case s4 =>
          intro w' ev hE hk ha hc hf
          have e21 : ev (.tmp 21) = .int .u32 (x : Int) := hk.1 _ rfl
          exact opStep_val (by simp [execOp, e21, hcv.out, go_sem]) rfl
        case s5 =>
          intro w' ev hE hk ha hc hf
          have e22 : ev (.tmp 22) = .int .u64 (x : Int) := hk.1 _ rfl
          exact opStep_val (by simp [execOp, e22, hc, hnum.out.1, go_sem]) rfl
        case s6 =>
          intro w' ev hE hk ha hc hf
          have e1 : ev (.tmp 1) = .slice B m d := ha 1 (by decide)
          exact opStep_val (by simp [execOp, e1, go_sem]) rfl
        case s7 =>
          intro w' ev hE hk ha hc hf
          have e7 : ev (.tmp 7) = .int .i64 (k : Int) := ha 7 (by decide)
          exact opStep_val (by simp [execOp, e7, go_sem]) rfl
        case s8 =>
          intro w' ev hE hk ha hc hf
          have e24 : ev (.tmp 24) = .slice B m d := hk.1 _ rfl
          have e25 : ev (.tmp 25) = .int .i64 (k : Int) := hk.2.1 _ rfl
          refine opStep_call (by simp [execOp, resolve, invoke, hf, e24, e25, go_sem]) (Rword_x _ lb k y _ (Hw.out.ext ((Ext.refl _).drew.trans hE)) hy.out) ?_
          rintro e w1 ⟨rfl, rfl⟩
          exact ⟨_, rfl, Ext.refl _, rfl⟩
        case s9 =>
          intro w' ev hE hk ha hc hf
          have e23 : ev (.tmp 23) = .int .u64 (4294967296 + (x : Int)) := hk.1 _ rfl
          have e26 : ev (.tmp 26) = .int .u64 (y : Int) := hk.2.1 _ rfl
          exact opStep_val (by simp [execOp, e23, e26, hnum.out.2.1, go_sem]) rfl
        case s10 =>
          intro w' ev hE hk ha hc hf
          have e6 : ev (.tmp 6) = .int .u64 (cc : Int) := ha 6 (by decide)
          exact opStep_val (by simp [execOp, e6, go_sem]) rfl
        case s11 =>
          intro w' ev hE hk ha hc hf
          have e27 : ev (.tmp 27) = .int .u64 (4294967296 + (x : Int) - y) := hk.1 _ rfl
          have e28 : ev (.tmp 28) = .int .u64 (cc : Int) := hk.2.1 _ rfl
          exact opStep_val (by simp [execOp, e27, e28, hnum.out.2.2.1, go_sem]) rfl
      case fin =>
        intro gf w' hE hF
        have e11 := hF 11 _ rfl
        simp only [List.length_cons, List.length_nil, Nat.reduceAdd, List.drop_succ_cons, List.drop_zero, List.take_succ_cons, List.take_zero, putG, Act.put, List.setIfInBounds_toArray, List.set_cons_succ, List.set_cons_zero, e11]
        replace hE := hide ((Ext.refl _).drew.trans hE)
        have hR' : Hid (DifRel w w' la lb r n k cc) := ⟨hR.out.1, hR.out.2.1, hR.out.2.2.1.ext hE.out, hR.out.2.2.2.1, hR.out.2.2.2.2.trans hE.out⟩
        have hst : w'.cell? ⟨w.heap.size, k, none⟩ = some (.int .u32 (r.getD k 0 : Nat)) := by rw [hR'.out.2.2.1.cell, wv_getD (by rw [hR'.out.1]; omega)]
        have hfz := hR'.out.2.2.1.frozen k
        clear hF e11 hE hR Hw
        obtain ⟨t, ht⟩ : ∃ t : Int, t = 4294967296 + (x : Int) - y - cc := ⟨_, rfl⟩
        rw [← ht] at hg1 hg2 hnum ⊢
        replace ht := hide ht
        generalize r.getD k 0 = old at *
        go_wp2
        exact ⟨hR'.out.step hlt hx.out hy.out hxB hyB hcc (by first | exact hnum.out.2.2.2.1 | exact hnum.out.2.2.2.2.1) hnum.out.2.2.2.2.2, by simp [intOf]; omega⟩
    · obtain rfl : k = n := by omega
      have hcl := hide (hR.out.close hn1.out.symm (by rw [← hm1.out]; exact hl) hv.out)
      have hW : Hid (Words wr (.slice (some ⟨w.heap.size, 0, none⟩) k k) r) := by
        have := Words.of_blk (c := k) hR.out.2.2.1 hR.out.2.1 (by rw [hR.out.1]; omega) (by omega)
        rw [hR.out.1] at this
        exact this
      go_wp2_with (go_at_call 114; refine (Rtrim_any _ _ _ hW.out).mono ?_; rintro e w' ⟨v', rfl, hv', hE⟩)
      go_ret
      refine ⟨v', rfl, ?_, hR.out.2.2.2.2.trans hE⟩
      rw [trimW_eq_digs hR.out.2.1, hcl.out] at hv'
      exact hv'

set_option maxRecDepth 100000 in
set_option maxHeartbeats 800000 in
theorem Rtimes_any (va vb : Value) (la lb : List Nat) (w : World) (ha : Words w va la) (hb : Words w vb lb) (hn : la.length ≤ 4398046511104) (hm : lb.length ≤ 4398046511104) :
    Calls Tryz.prog 100 #[va, vb] w fun e w' => ∃ v', e = .returned v' ∧ Words w' v' (digs (val la * val lb)) ∧ Ext w w' := by
  obtain ⟨A, c, rfl, hc, hm', hx⟩ := ha.open_
  obtain ⟨B, d, rfl, hd, hm'', hy⟩ := hb.open_
  have hsa := hide ha.small
  have hsb := hide hb.small
  clear ha hb
  have hA := hide hx
  have hB := hide hy
  clear hx hy
  obtain ⟨n, hn1⟩ : ∃ n, n = la.length := ⟨_, rfl⟩
  obtain ⟨m, hm1⟩ : ∃ m, m = lb.length := ⟨_, rfl⟩
  rw [← hn1] at hc hn ⊢
  rw [← hm1] at hd hm ⊢
  replace hn1 := hide hn1
  replace hm1 := hide hm1
  have hmk := fun W => run_make_words (n + m) (by omega) .i64 .i64 W
  simp only [Int.natCast_add] at hmk
  go_enter Tryz.func100, Tryz.ntmps100
  go_wp2
  go_loopw [6] (fun i wr => ∃ (k : Nat) (r : List Nat), k ≤ n ∧ i = .int .i64 k ∧ Hid (MulRel w wr la lb r n m k)) (fun i _ => n - (intOf i).toNat)
  case atStart => exact ⟨0, List.replicate (n + m) 0, Nat.zero_le _, rfl, by simp, small_replicate _, Blk.new _ _ _, by
    have : ∀ q, val (List.replicate q 0) = 0 := fun q => by
      induction q with
      | zero => rfl
      | succ q ih => simp [List.replicate_succ, val, ih]
    simp [val, List.take_replicate, this], (Ext.refl _).alloc _⟩
  case round =>
    obtain ⟨k, r, hk, rfl, hR⟩ := hrel
    by_cases hlt : k < n
    · obtain ⟨b, o, rfl, hb, hcell⟩ := hA.out (by rw [← hn1.out]; omega)
      replace hcell := (hR.out.2.2.2.2.cell (p := ⟨b, o + k, none⟩) hb).trans (hcell k (by rw [← hn1.out]; omega))
      have hxB := small_getD hsa.out k
      generalize hx : la.getD k 0 = x at *
      replace hx := hide hx
      unfold BB at hxB
      go_wp2
      obtain ⟨wo, rfl⟩ : ∃ wo : World, wo = wr := ⟨_, rfl⟩
      go_loopw [7, 8] (fun cy i wr => ∃ (j cc : Nat) (r : List Nat), j ≤ m ∧ i = .int .i64 j ∧ cy = .int .u64 cc ∧ cc < 4294967296 ∧ Hid (MulIn w wr la lb r n m k j x cc)) (fun _ i _ => m - (intOf i).toNat)
      case atStart => exact ⟨0, 0, r, Nat.zero_le _, rfl, rfl, by omega, hR.out.1, hR.out.2.1, hR.out.2.2.1, by simp [val, hR.out.2.2.2.1], hR.out.2.2.2.2⟩
      case round =>
        obtain ⟨j, cc, r, hj, rfl, rfl, hcc, hI⟩ := hrel
        by_cases hjm : j < m
        · obtain ⟨b', o', rfl, hb', hcell'⟩ := hB.out (by rw [← hm1.out]; omega)
          replace hcell' := (hI.out.2.2.2.2.cell (p := ⟨b', o' + j, none⟩) hb').trans (hcell' j (by rw [← hm1.out]; omega))
          have hyB := small_getD hsb.out j
          have hzB := small_getD hI.out.2.1 (k + j)
          have hst : wr.cell? ⟨w.heap.size, k + j, none⟩ = some (.int .u32 (r.getD (k + j) 0 : Nat)) := by rw [hI.out.2.2.1.cell, wv_getD (by rw [hI.out.1]; omega)]
          have hfz := hI.out.2.2.1.frozen (k + j)
          generalize hy : lb.getD j 0 = y at *
          generalize hz : r.getD (k + j) 0 = z at *
          replace hy := hide hy
          replace hz := hide hz
          unfold BB at hyB hzB
          have hcw : wr.cell? ⟨b, o + k, none⟩ = some (.int .u32 (x : Int)) := (hI.out.2.2.2.2.cell (p := ⟨b, o + k, none⟩) hb).trans ((hR.out.2.2.2.2.cell (p := ⟨b, o + k, none⟩) hb).symm.trans hcell)
          have hnum := hide (times_num x y z cc hxB hyB hzB hcc)
          have hg1 : (x : Int) * y + z + cc ≤ 18446744073709551615 := hnum.out.2.2.2.2.2
          have hg2 : 0 ≤ (x : Int) * y + z + cc := hnum.out.2.2.2.2.1
          have hi1 : ¬ n ≤ k := by omega
          have hi2 : ¬ m ≤ j := by omega
          have hi3 : ¬ n + m ≤ k + j := by omega
          have hi4 : IntKind.i64.wrap ((k : Int) + j) = (k : Int) + j := IntWalk.i64_in _ (by omega)
          have hi5 : ((k : Int) + j).toNat = k + j := by omega
          have hi6 : (k : Int) + j < (n : Int) + m := by omega
          have hi7 : 0 ≤ (k : Int) + j := by omega
          have hcv1 : Hid (IntKind.u64.wrap (x : Int) = x) := hide (IntWalk.u64_in _ (by omega))
          have hcv2 : Hid (IntKind.u64.wrap (y : Int) = y) := hide (IntWalk.u64_in _ (by omega))
          have hcv3 : Hid (IntKind.u64.wrap (z : Int) = z) := hide (IntWalk.u64_in _ (by omega))
          replace hi4 := hide hi4
          replace hi5 := hide hi5
          go_upto_region 9 with (fail)
          refine wp_region_v (by kernel_rfl) [[], [], [(28, 0), (29, 1)], [(30, 2)], [(31, 3)], [], [], [(33, 5), (34, 6)], [(35, 7)], [(36, 8)], [(32, 4), (37, 9)], [], [], [], [(40, 12), (41, 13)], [(39, 11), (42, 14)], [(43, 15)], [(44, 16)], [(38, 10), (45, 17)], [], [(46, 18), (47, 19)]] [[], [], [0, 1], [0, 1, 2], [0, 1, 2, 3], [], [], [5, 6], [5, 6, 7], [5, 6, 7, 8], [0, 1, 2, 3, 4, 5, 6, 7, 8, 9], [], [], [], [12, 13], [11, 12, 13, 14], [11, 12, 13, 14, 15], [11, 12, 13, 14, 15, 16], [0, 1, 2, 3, 4, 5, 6, 7, 8, 9, 10, 11, 12, 13, 14, 15, 16, 17], [], [0, 1, 2, 3, 4, 5, 6, 7, 8, 9, 10, 11, 12, 13, 14, 15, 16, 17, 18, 19]]
            [fun v _ => v = .slice (some ⟨b, o, none⟩) n c, fun v _ => v = .int .i64 (k : Int), fun v _ => v = .pointer (some ⟨b, o + k, none⟩), fun v _ => v = .int .u32 (x : Int), fun v _ => v = .int .u64 (x : Int), fun v _ => v = .slice (some ⟨b', o', none⟩) m d, fun v _ => v = .int .i64 (j : Int), fun v _ => v = .pointer (some ⟨b', o' + j, none⟩), fun v _ => v = .int .u32 (y : Int), fun v _ => v = .int .u64 (y : Int), fun v _ => v = .int .u64 ((x : Int) * y), fun v _ => v = .slice (some ⟨w.heap.size, 0, none⟩) (n + m) (n + m), fun v _ => v = .int .i64 (k : Int), fun v _ => v = .int .i64 (j : Int), fun v _ => v = .int .i64 ((k : Int) + j), fun v _ => v = .pointer (some ⟨w.heap.size, k + j, none⟩), fun v _ => v = .int .u32 (z : Int), fun v _ => v = .int .u64 (z : Int), fun v _ => v = .int .u64 ((x : Int) * y + z), fun v _ => v = .int .u64 (cc : Int), fun v _ => v = .int .u64 ((x : Int) * y + z + cc)]
            rfl (by kernel_rfl) (by kernel_rfl) ?stab ?steps ?fin
          case stab => exact .cons (Stab.eq _) (.cons (Stab.eq _) (.cons (Stab.eq _) (.cons (Stab.eq _) (.cons (Stab.eq _) (.cons (Stab.eq _) (.cons (Stab.eq _) (.cons (Stab.eq _) (.cons (Stab.eq _) (.cons (Stab.eq _) (.cons (Stab.eq _) (.cons (Stab.eq _) (.cons (Stab.eq _) (.cons (Stab.eq _) (.cons (Stab.eq _) (.cons (Stab.eq _) (.cons (Stab.eq _) (.cons (Stab.eq _) (.cons (Stab.eq _) (.cons (Stab.eq _) (.cons (Stab.eq _) .nil))))))))))))))))))))
          case steps =>
            refine .cons ?s0 (.cons ?s1 (.cons ?s2 (.cons ?s3 (.cons ?s4 (.cons ?s5 (.cons ?s6 (.cons ?s7 (.cons ?s8 (.cons ?s9 (.cons ?s10 (.cons ?s11 (.cons ?s12 (.cons ?s13 (.cons ?s14 (.cons ?s15 (.cons ?s16 (.cons ?s17 (.cons ?s18 (.cons ?s19 (.cons ?s20 .nil))))))))))))))))))))
            case s0 =>
              intro w' ev hE hk ha hc hf
              have e0 : ev (.tmp 0) = .slice (some ⟨b, o, none⟩) n c := ha 0 (by decide)
              exact opStep_val (by simp [execOp, e0, go_sem]) rfl
            case s1 =>
              intro w' ev hE hk ha hc hf
              have e6 : ev (.tmp 6) = .int .i64 (k : Int) := ha 6 (by decide)
              exact opStep_val (by simp [execOp, e6, go_sem]) rfl
            case s2 =>
              intro w' ev hE hk ha hc hf
              have e28 : ev (.tmp 28) = .slice (some ⟨b, o, none⟩) n c := hk.1 _ rfl
              have e29 : ev (.tmp 29) = .int .i64 (k : Int) := hk.2.1 _ rfl
              exact opStep_val (by simp [execOp, e28, e29, hi1, go_sem]) rfl
            case s3 =>
              intro w' ev hE hk ha hc hf
              have e30 : ev (.tmp 30) = .pointer (some ⟨b, o + k, none⟩) := hk.1 _ rfl
              have c0 : w'.cell? ⟨b, o + k, none⟩ = some (.int .u32 (x : Int)) := hE.cellv hcw
              exact opStep_val (by simp [execOp, e30, c0, go_sem]) rfl
            case s4 =>
              intro w' ev hE hk ha hc hf
              have e31 : ev (.tmp 31) = .int .u32 (x : Int) := hk.1 _ rfl
              exact opStep_val (by simp [execOp, e31, hcv1.out, go_sem]) rfl
            case s5 =>
              intro w' ev hE hk ha hc hf
              have e1 : ev (.tmp 1) = .slice (some ⟨b', o', none⟩) m d := ha 1 (by decide)
              exact opStep_val (by simp [execOp, e1, go_sem]) rfl
            case s6 =>
              intro w' ev hE hk ha hc hf
              have e8 : ev (.tmp 8) = .int .i64 (j : Int) := ha 8 (by decide)
              exact opStep_val (by simp [execOp, e8, go_sem]) rfl
            case s7 =>
              intro w' ev hE hk ha hc hf
              have e33 : ev (.tmp 33) = .slice (some ⟨b', o', none⟩) m d := hk.1 _ rfl
              have e34 : ev (.tmp 34) = .int .i64 (j : Int) := hk.2.1 _ rfl
              exact opStep_val (by simp [execOp, e33, e34, hi2, go_sem]) rfl
            case s8 =>
              intro w' ev hE hk ha hc hf
              have e35 : ev (.tmp 35) = .pointer (some ⟨b', o' + j, none⟩) := hk.1 _ rfl
              have c0 : w'.cell? ⟨b', o' + j, none⟩ = some (.int .u32 (y : Int)) := hE.cellv hcell'
              exact opStep_val (by simp [execOp, e35, c0, go_sem]) rfl
            case s9 =>
              intro w' ev hE hk ha hc hf
              have e36 : ev (.tmp 36) = .int .u32 (y : Int) := hk.1 _ rfl
              exact opStep_val (by simp [execOp, e36, hcv2.out, go_sem]) rfl
            case s10 =>
              intro w' ev hE hk ha hc hf
              have e32 : ev (.tmp 32) = .int .u64 (x : Int) := hk.1 _ rfl
              have e37 : ev (.tmp 37) = .int .u64 (y : Int) := hk.2.1 _ rfl
              exact opStep_val (by simp [execOp, e32, e37, hnum.out.1, go_sem]) rfl
            case s11 =>
              intro w' ev hE hk ha hc hf
              have e5 : ev (.tmp 5) = .slice (some ⟨w.heap.size, 0, none⟩) (n + m) (n + m) := ha 5 (by decide)
              exact opStep_val (by simp [execOp, e5, go_sem]) rfl
            case s12 =>
              intro w' ev hE hk ha hc hf
              have e6 : ev (.tmp 6) = .int .i64 (k : Int) := ha 6 (by decide)
              exact opStep_val (by simp [execOp, e6, go_sem]) rfl
            case s13 =>
              intro w' ev hE hk ha hc hf
              have e8 : ev (.tmp 8) = .int .i64 (j : Int) := ha 8 (by decide)
              exact opStep_val (by simp [execOp, e8, go_sem]) rfl
            case s14 =>
              intro w' ev hE hk ha hc hf
              have e40 : ev (.tmp 40) = .int .i64 (k : Int) := hk.1 _ rfl
              have e41 : ev (.tmp 41) = .int .i64 (j : Int) := hk.2.1 _ rfl
              exact opStep_val (by simp [execOp, e40, e41, hi4.out, go_sem]) rfl
            case s15 =>
              intro w' ev hE hk ha hc hf
              have e39 : ev (.tmp 39) = .slice (some ⟨w.heap.size, 0, none⟩) (n + m) (n + m) := hk.1 _ rfl
              have e42 : ev (.tmp 42) = .int .i64 ((k : Int) + j) := hk.2.1 _ rfl
              exact opStep_val (by simp [execOp, e39, e42, hi3, hi5.out, hi6, hi7, go_sem]) rfl
            case s16 =>
              intro w' ev hE hk ha hc hf
              have e43 : ev (.tmp 43) = .pointer (some ⟨w.heap.size, k + j, none⟩) := hk.1 _ rfl
              have c0 : w'.cell? ⟨w.heap.size, k + j, none⟩ = some (.int .u32 (z : Int)) := hE.cellv hst
              exact opStep_val (by simp [execOp, e43, c0, go_sem]) rfl
            case s17 =>
              intro w' ev hE hk ha hc hf
              have e44 : ev (.tmp 44) = .int .u32 (z : Int) := hk.1 _ rfl
              exact opStep_val (by simp [execOp, e44, hcv3.out, go_sem]) rfl
            case s18 =>
              intro w' ev hE hk ha hc hf
              have e38 : ev (.tmp 38) = .int .u64 ((x : Int) * y) := hk.1 _ rfl
              have e45 : ev (.tmp 45) = .int .u64 (z : Int) := hk.2.1 _ rfl
              exact opStep_val (by simp [execOp, e38, e45, hnum.out.2.1, go_sem]) rfl
            case s19 =>
              intro w' ev hE hk ha hc hf
              have e7 : ev (.tmp 7) = .int .u64 (cc : Int) := ha 7 (by decide)
              exact opStep_val (by simp [execOp, e7, go_sem]) rfl
            case s20 =>
              intro w' ev hE hk ha hc hf
              have e46 : ev (.tmp 46) = .int .u64 ((x : Int) * y + z) := hk.1 _ rfl
              have e47 : ev (.tmp 47) = .int .u64 (cc : Int) := hk.2.1 _ rfl
              exact opStep_val (by simp [execOp, e46, e47, hnum.out.2.2.1, go_sem]) rfl
          case fin =>
            intro gf w' hE hF
            have e20 := hF 20 _ rfl
            simp only [List.length_cons, List.length_nil, Nat.reduceAdd, List.drop_succ_cons, List.drop_zero, List.take_succ_cons, List.take_zero, putG, Act.put, List.setIfInBounds_toArray, List.set_cons_succ, List.set_cons_zero, e20]
            replace hE := hide ((Ext.refl _).drew.trans hE)
            have hI' : Hid (MulIn w w' la lb r n m k j x cc) := ⟨hI.out.1, hI.out.2.1, hI.out.2.2.1.ext hE.out, hI.out.2.2.2.1, hI.out.2.2.2.2.trans hE.out⟩
            replace hst := hE.out.cellv hst
            replace hfz := hI'.out.2.2.1.frozen (k + j)
            clear hF e20 hE hI hcell hcell' hcw hi4 hi5 hi1 hi2 hi3 hi6 hi7 hcv1 hcv2 hcv3
            have hs1 := hide (hI'.out.step (u := ((x : Int) * y + z + cc) % 4294967296) (v := ((x : Int) * y + z + cc) / 4294967296) hjm hlt hy.out hz.out hxB hyB hzB hcc (by rw [BB_eq]; simp) (by rw [BB_eq]; simp))
            generalize (x : Int) * y + z + cc = T at *
            go_wp2
            exact ⟨by first | exact hs1.out | (rw [Int.emod_emod_of_dvd]; exact hs1.out), by simp [intOf]; omega⟩
        · obtain rfl : j = m := by omega
          have hst : wr.cell? ⟨w.heap.size, k + j, none⟩ = some (.int .u32 (r.getD (k + j) 0 : Nat)) := by rw [hI.out.2.2.1.cell, wv_getD (by rw [hI.out.1]; omega)]
          have hfz := hI.out.2.2.1.frozen (k + j)
          have hcl := hide (hI.out.close hlt hm1.out.symm hx.out hcc)
          go_wp2
          exact ⟨⟨k + 1, _, hlt, by simp, hcl⟩, by simp [intOf]; omega⟩
    · obtain rfl : k = n := by omega
      have hW : Hid (Words wr (.slice (some ⟨w.heap.size, 0, none⟩) (k + m) (k + m)) r) := by
        have := Words.of_blk (c := k + m) hR.out.2.2.1 hR.out.2.1 (by rw [hR.out.1]; omega) (by omega)
        rw [hR.out.1] at this
        exact this
      have hcl : Hid (val r = val la * val lb) := by
        have h1 := hR.out.2.2.2.1
        have er : r.take (k + m) = r := List.take_of_length_le (by rw [hR.out.1]; omega)
        have ea : la.take k = la := List.take_of_length_le (by rw [← hn1.out]; omega)
        rw [er, ea] at h1
        exact h1
      go_wp2_with (go_at_call 114; refine (Rtrim_any _ _ _ hW.out).mono ?_; rintro e w' ⟨v', rfl, hv', hE⟩)
      go_ret
      refine ⟨v', rfl, ?_, hR.out.2.2.2.2.trans hE⟩
      rw [trimW_eq_digs hR.out.2.1, hcl.out] at hv'
      exact hv'

set_option maxRecDepth 100000 in
set_option maxHeartbeats 800000 in
theorem Rcompared_any (va vb : Value) (x y : Nat) (w : World) (ha : Words w va (digs x)) (hb : Words w vb (digs y)) :
    Calls Tryz.prog 125 #[va, vb] w fun e w' => e = .returned (.int .i64 (cmpN x y)) ∧ Ext w w' := by
  obtain ⟨A, c, rfl, hc, hm', hx⟩ := ha.open_
  obtain ⟨B, d, rfl, hd, hm'', hy⟩ := hb.open_
  clear ha hb
  have hA := hide hx
  have hB := hide hy
  clear hx hy
  obtain ⟨n, hn1⟩ : ∃ n, n = (digs x).length := ⟨_, rfl⟩
  obtain ⟨m, hm1⟩ : ∃ m, m = (digs y).length := ⟨_, rfl⟩
  rw [← hn1] at hc ⊢
  rw [← hm1] at hd ⊢
  replace hn1 := hide hn1
  replace hm1 := hide hm1
  rcases Nat.lt_trichotomy n m with hlt | heq | hgt
  · have hne : decide ((n : Int) < m) = true := by simp; omega
    have hne2 : decide ((m : Int) < n) = false := by simp; omega
    go_enter Tryz.func125, Tryz.ntmps125
    go_wp2
    go_ret
    exact ⟨by rw [cmpN_of_len_lt (by rw [← hn1.out, ← hm1.out]; exact hlt)]; rfl, Ext.refl _⟩
  · subst heq
    have hne : decide ((n : Int) < n) = false := by simp
    go_enter Tryz.func125, Tryz.ntmps125
    go_wp2
    go_loopw [5] (fun i wr => ∃ k : Nat, k ≤ n ∧ i = .int .i64 ((k : Int) - 1) ∧ Hid (Ext w wr ∧ ∀ i, k ≤ i → (digs x).getD i 0 = (digs y).getD i 0)) (fun i _ => (intOf i + 1).toNat)
    case atStart => exact ⟨n, Nat.le_refl _, rfl, Ext.refl _, fun i hi => by
      have h1 : (digs x).length ≤ i := by rw [← hn1.out]; exact hi
      have h2 : (digs y).length ≤ i := by rw [← hm1.out]; exact hi
      simp [h1, h2]⟩
    case round =>
      obtain ⟨k, hk, rfl, hR⟩ := hrel
      by_cases hk0 : k = 0
      · subst hk0
        go_wp2
        go_ret
        exact ⟨by rw [cmpN_of_eq (by rw [← hn1.out, ← hm1.out]) (fun i => hR.out.2 i (Nat.zero_le _))]; rfl, hR.out.1⟩
      · obtain ⟨q, rfl⟩ : ∃ q, k = q + 1 := ⟨k - 1, by omega⟩
        obtain ⟨b, o, rfl, hb, hcell⟩ := hA.out (by rw [← hn1.out]; omega)
        replace hcell := (hR.out.1.cell (p := ⟨b, o + q, none⟩) hb).trans (hcell q (by rw [← hn1.out]; omega))
        obtain ⟨b', o', rfl, hb', hcell'⟩ := hB.out (by rw [← hm1.out]; omega)
        replace hcell' := (hR.out.1.cell (p := ⟨b', o' + q, none⟩) hb').trans (hcell' q (by rw [← hm1.out]; omega))
        generalize hX : (digs x).getD q 0 = X at *
        generalize hY : (digs y).getD q 0 = Y at *
        replace hX := hide hX
        replace hY := hide hY
        have hq1 : ((q + 1 : Nat) : Int) - 1 = q := by omega
        rw [hq1]
        rcases Nat.lt_trichotomy X Y with hlt | heq | hgt
        · have hneq : decide ((X : Int) < Y) = true := by simp; omega
          go_wp2
          go_quiet (fail)
          go_wp2
          go_ret
          exact ⟨by rw [cmpN_of_lt (k := q) (by rw [← hn1.out, ← hm1.out]) (by rw [← hn1.out]; omega) (fun i hi => hR.out.2 i hi) (by rw [hX.out, hY.out]; exact hlt)]; rfl, hR.out.1.drewN _⟩
        · subst heq
          have hneq : decide ((X : Int) < X) = false := by simp
          go_wp2
          go_quiet (fail)
          go_wp2
          go_quiet (fail)
          go_wp2
          refine ⟨⟨q, by omega, rfl, hR.out.1.drewN _, fun i hi => ?_⟩, by simp [intOf]⟩
          rcases Nat.lt_or_ge q i with h1 | h1
          · exact hR.out.2 i h1
          · obtain rfl : i = q := by omega
            rw [hX.out, hY.out]
        · have hneq : decide ((X : Int) < Y) = false := by simp; omega
          have hneq2 : decide ((Y : Int) < X) = true := by simp; omega
          have hnlt : ¬ ((X : Int) < Y) := by omega
          go_wp2
          go_quiet (fail)
          go_wp2
          go_quiet (fail)
          go_wp2
          go_ret
          exact ⟨by rw [cmpN_of_gt (k := q) (by rw [← hn1.out, ← hm1.out]) (by rw [← hn1.out]; omega) (fun i hi => hR.out.2 i hi) (by rw [hX.out, hY.out]; exact hgt)]; rfl, (hR.out.1.drewN _).drewN _⟩
  · have hne : decide ((n : Int) < m) = false := by simp; omega
    have hne2 : decide ((m : Int) < n) = true := by simp; omega
    go_enter Tryz.func125, Tryz.ntmps125
    go_wp2
    go_ret
    exact ⟨by rw [cmpN_of_len_gt (by rw [← hn1.out, ← hm1.out]; exact hgt)]; rfl, Ext.refl _⟩

set_option maxRecDepth 100000 in
set_option maxHeartbeats 800000 in
theorem Rshortly_any (va : Value) (la : List Nat) (d : Nat) (w : World) (ha : Words w va la) (hn : la.length ≤ 4398046511104) (hd0 : 0 < d) (hdB : d < 4294967296) :
    Calls Tryz.prog 131 #[va, .int .u64 d] w fun e w' => ∃ v', e = .returned (.tuple #[v', .int .u64 (val la % d : Nat)]) ∧ Words w' v' (digs (val la / d)) ∧ Ext w w' := by
  obtain ⟨A, c, rfl, hc, hm', hx⟩ := ha.open_
  have hsa := hide ha.small
  clear ha
  have hA := hide hx
  clear hx
  obtain ⟨n, hn1⟩ : ∃ n, n = la.length := ⟨_, rfl⟩
  rw [← hn1] at hc hn ⊢
  replace hn1 := hide hn1
  have hmk := fun W => run_make_words n (by omega) .i64 .i64 W
  go_enter Tryz.func131, Tryz.ntmps131
  go_wp2
  go_loopw [7, 8] (fun t i wr => ∃ (k r : Nat) (q : List Nat), k ≤ n ∧ i = .int .i64 ((k : Int) - 1) ∧ t = .int .u64 r ∧ r < d ∧ Hid (DsRel w wr la q d n k r)) (fun _ i _ => (intOf i + 1).toNat)
  case atStart => exact ⟨n, 0, List.replicate n 0, Nat.le_refl _, rfl, rfl, hd0, by simp, small_replicate _, Blk.new _ _ _, by
    have h1 : la.drop n = [] := List.drop_eq_nil_of_le (by rw [← hn1.out]; omega)
    rw [h1]; simp [val], (Ext.refl _).alloc _⟩
  case round =>
    obtain ⟨k, r, q, hk, rfl, rfl, hr, hR⟩ := hrel
    by_cases hk0 : k = 0
    · subst hk0
      have hW : Hid (Words wr (.slice (some ⟨w.heap.size, 0, none⟩) n n) q) := by
        have := Words.of_blk (c := n) hR.out.2.2.1 hR.out.2.1 (by rw [hR.out.1]; omega) (by omega)
        rw [hR.out.1] at this
        exact this
      have hfin : Hid (val la / d = val q ∧ val la % d = r) := by
        have h1 := hR.out.2.2.2.1
        simp only [List.drop_zero] at h1
        rw [h1]
        constructor
        · rw [Nat.mul_comm, Nat.mul_add_div hd0, Nat.div_eq_of_lt hr, Nat.add_zero]
        · rw [Nat.mul_comm, Nat.mul_add_mod, Nat.mod_eq_of_lt hr]
      go_wp2_with (go_at_call 114; refine (Rtrim_any _ _ _ hW.out).mono ?_; rintro e w' ⟨v', rfl, hv', hE⟩)
      go_ret2
      refine ⟨v', by rw [hfin.out.2]; rfl, ?_, hR.out.2.2.2.2.trans hE⟩
      rw [trimW_eq_digs hR.out.2.1, ← hfin.out.1] at hv'
      exact hv'
    · obtain ⟨k, rfl⟩ : ∃ q, k = q + 1 := ⟨k - 1, by omega⟩
      obtain ⟨b, o, rfl, hb, hcell⟩ := hA.out (by rw [← hn1.out]; omega)
      replace hcell := (hR.out.2.2.2.2.cell (p := ⟨b, o + k, none⟩) hb).trans (hcell k (by rw [← hn1.out]; omega))
      have hxB := small_getD hsa.out k
      have hst : wr.cell? ⟨w.heap.size, k, none⟩ = some (.int .u32 (q.getD k 0 : Nat)) := by rw [hR.out.2.2.1.cell, wv_getD (by rw [hR.out.1]; omega)]
      have hfz := hR.out.2.2.1.frozen k
      generalize hx : la.getD k 0 = x at *
      replace hx := hide hx
      unfold BB at hxB
      have hq1 : ((k + 1 : Nat) : Int) - 1 = k := by omega
      rw [hq1]
      have hfin : Hid (((r : Int) * 4294967296 + x) / d % 4294967296 = ((r * 4294967296 + x) / d : Nat) ∧ ((r : Int) * 4294967296 + x) % d = ((r * 4294967296 + x) % d : Nat)) := ds_num hr hxB hdB
      go_wp2
      refine ⟨⟨k, (r * 4294967296 + x) % d, _, by omega, rfl, by rw [hfin.out.2], Nat.mod_lt _ hd0, hR.out.step hk hn1.out.symm hx.out hd0 hr hdB hxB hfin.out.1⟩, by simp [intOf]⟩

set_option maxRecDepth 100000 in
theorem Rnumber_any (v : Value) (l : List Nat) (w : World) (h : Words w v l) (hn : l.length ≤ 2) :
    Calls Tryz.prog 128 #[v] w fun e w' => e = .returned (.int .u64 (val l : Nat)) ∧ w = w' := by
  have h0 := small_getD h.small 0
  have h1 := small_getD h.small 1
  have hv : Hid (val l = l.getD 0 0 + BB * l.getD 1 0) := by
    match l, hn with
    | [], _ => simp [val, Hid]
    | [a], _ => simp [val, Hid]
    | [a, b], _ => simp [val, Hid]
  replace h := hide h
  generalize hx : l.getD 0 0 = x at *
  generalize hy : l.getD 1 0 = y at *
  replace hx := hide hx
  replace hy := hide hy
  unfold BB at h0 h1
  go_enter Tryz.func128, Tryz.ntmps128
  go_wp2_with fail
  refine (Rword_x v l 1 y _ h.out hy.out).mono ?_
  rintro e w1 ⟨rfl, rfl⟩
  go_wp2_with fail
  refine (Rword_x v l 0 x _ h.out hx.out).mono ?_
  rintro e w1 ⟨rfl, rfl⟩
  go_wp2
  go_ret
  exact ⟨by rw [hv.out, BB_eq, show x + 4294967296 * y = y * 4294967296 + x by omega]; rfl, rfl⟩
set_option maxRecDepth 100000 in
theorem Reuclid_any (a b : Nat) (w : World) (ha : a < 18446744073709551616) (hb : b < 18446744073709551616) :
    Calls Tryz.prog 127 #[.int .u64 a, .int .u64 b] w fun e w' => e = .returned (.int .u64 (Nat.gcd a b : Nat)) ∧ w = w' := by
  go_enter Tryz.func127, Tryz.ntmps127
  go_wp2
  go_loop [0, 1] (fun x y => ∃ p q : Nat, p < 18446744073709551616 ∧ q < 18446744073709551616 ∧ x = .int .u64 p ∧ y = .int .u64 q ∧ Hid (Nat.gcd p q = Nat.gcd a b)) (fun _ y => (intOf y).toNat)
  case atStart => exact ⟨a, b, ha, hb, rfl, rfl, rfl⟩
  case round =>
    obtain ⟨p, q, hp, hq, rfl, rfl, hg⟩ := hrel
    by_cases h0 : q = 0
    · subst h0
      go_wp2
      go_ret
      exact ⟨by rw [← hg.out, Nat.gcd_zero_right]; rfl, rfl⟩
    · have hq0 : 0 < q := by omega
      have hd : decide ((0 : Int) < q) = true := by simpa using hq0
      obtain ⟨r, hr⟩ : ∃ r, r = p % q := ⟨_, rfl⟩
      have hrem : (p : Int) % (q : Int) = (r : Int) := by rw [hr]; rfl
      have hlt : r < q := by rw [hr]; exact Nat.mod_lt _ hq0
      replace hr := hide hr
      go_wp2
      go_round
      case rel => exact ⟨q, r, hq, by omega, rfl, by rw [← hrem], by rw [hr.out, ← hg.out, Nat.gcd_comm p q, Nat.gcd_rec q p]; exact Nat.gcd_comm _ _⟩
      case measure => simp [intOf]; omega

end Go.Proofs.YteefhmdameeoaaaGreat
