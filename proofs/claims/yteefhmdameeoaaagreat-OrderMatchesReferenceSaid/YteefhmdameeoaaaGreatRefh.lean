/-
  Contracts of the reference's rational numbers: exact, lowest, New, Whole, Sign, Neg, Add, Sub, Mul, Inv.
-/
import Derived.Test.YteefhmdameeoaaaGreatRefg
import Derived.Test.YteefhmdameeoaaaGreatP4
set_option linter.unusedSimpArgs false
set_option linter.unusedVariables false
namespace Go.Proofs.YteefhmdameeoaaaGreat
open Go.RowKit

/-- The divisor that brings to lowest terms. -/
def lowG (x y : Int) : Int := if y < 0 then -(Nat.gcd x.natAbs y.natAbs : Int) else (Nat.gcd x.natAbs y.natAbs : Int)
theorem lowG_ne {x y : Int} (hy : y ≠ 0) : lowG x y ≠ 0 := by
  have : Nat.gcd x.natAbs y.natAbs ≠ 0 := fun h => by have := (Nat.gcd_eq_zero_iff.1 h).2; omega
  unfold lowG
  split <;> omega
theorem lowG_parts {x y : Int} (hy : y ≠ 0) : (Rat.divInt x y).num = x / lowG x y ∧ ((Rat.divInt x y).den : Int) = y / lowG x y := by
  unfold lowG
  by_cases h : y < 0
  · rw [if_pos h, ← Rat.neg_divInt_neg]
    have h1 := divInt_parts (x := -x) (y := -y) (by omega)
    rw [Int.natAbs_neg, Int.natAbs_neg] at h1
    have d1 : ((Nat.gcd x.natAbs y.natAbs : Nat) : Int) ∣ x := Int.ofNat_dvd_left.2 (Nat.gcd_dvd_left _ _)
    have d2 : ((Nat.gcd x.natAbs y.natAbs : Nat) : Int) ∣ y := Int.ofNat_dvd_left.2 (Nat.gcd_dvd_right _ _)
    rw [h1.1, h1.2, Int.ediv_neg, Int.ediv_neg, Int.neg_ediv_of_dvd d1, Int.neg_ediv_of_dvd d2]
    exact ⟨rfl, rfl⟩
  · rw [if_neg h]
    exact divInt_parts (by omega)
theorem lowG_len {x y : Int} {N : Nat} (hy : y ≠ 0) (h : (digs y.natAbs).length ≤ N) : (digs (lowG x y).natAbs).length ≤ N := by
  refine digs_len_of_le ?_ h
  have := Nat.gcd_le_right (m := x.natAbs) (n := y.natAbs) (by omega)
  unfold lowG
  split <;> omega

set_option maxRecDepth 100000 in
set_option maxHeartbeats 1600000 in
theorem Rexact_any (b b' : Bool) (A A' : Option Addr) (n c n' c' : Nat) (x y : Int) (w : World) (h : IsInt w (.bool b) (.slice A n c) x) (h' : IsInt w (.bool b') (.slice A' n' c') y) (hn : (digs x.natAbs).length ≤ 4398046511103) (hn' : (digs y.natAbs).length ≤ 4398046511104) (hy : y ≠ 0) :
    Calls Tryz.prog 99 #[.agg #[.bool b, .slice A n c], .agg #[.bool b', .slice A' n' c']] w (RetInt (x / y) w) := by
  replace h := hide h
  replace h' := hide h'
  go_enter Tryz.func99, Tryz.ntmps99
  go_wp2_with fail
  refine (Rdivmod_any b b' A A' n c n' c' x y _ (h.out.ext ((((Ext.refl _).alloc _).alloc _).alloc _)) (h'.out.ext ((((Ext.refl _).alloc _).alloc _).alloc _)) hn hn' hy).mono ?_
  rintro e w1 ⟨b5, b6, A5, A6, n5, c5, n6, c6, rfl, hI5, hI6, hE1⟩
  have hcl := (hE1.alloc (.cells #[.bool b5, .slice A5 n5 c5] 72)).alloc (.cells #[.bool b6, .slice A6 n6 c6] 72)
  obtain ⟨hcell, hfr⟩ := hcl.cells
  have ht : Ty ((w1.alloc (.cells #[.bool b5, .slice A5 n5 c5] 72)).alloc (.cells #[.bool b6, .slice A6 n6 c6] 72)) (w.heap.size + 2) 72 := (Ty.new' _ _ (by simp)).ext hcl
  replace hI5 := hide ((hI5.ext ((Ext.refl _).alloc (.cells #[.bool b5, .slice A5 n5 c5] 72))).ext ((Ext.refl _).alloc (.cells #[.bool b6, .slice A6 n6 c6] 72)))
  have x0 : ((w1.alloc (.cells #[.bool b5, .slice A5 n5 c5] 72)).alloc (.cells #[.bool b6, .slice A6 n6 c6] 72)).cell? ⟨w1.heap.size, 0, none⟩ = some (.bool b5) := ((Blk.new _ _ _).alloc _).cell 0
  have x1 : ((w1.alloc (.cells #[.bool b5, .slice A5 n5 c5] 72)).alloc (.cells #[.bool b6, .slice A6 n6 c6] 72)).cell? ⟨w1.heap.size, 1, none⟩ = some (.slice A5 n5 c5) := ((Blk.new _ _ _).alloc _).cell 1
  replace hcl := hide hcl
  clear hI6 hE1
  go_upto_region 2 with (fail)
  generalize ((w1.alloc (.cells #[.bool b5, .slice A5 n5 c5] 72)).alloc (.cells #[.bool b6, .slice A6 n6 c6] 72)) = w2 at *
  generalize w1.heap.size = G at *
  go_wp2
  refine bodyPost_ret (v := .agg #[.bool b5, .slice A5 n5 c5]) (by simp [results, Tryz.results99, go_sem, hcell]) rfl ⟨_, _, _, _, rfl, ?_, ?_⟩
  · exact (hI5.out.set ht (by decide) _).set (ht.set _ _) (by decide) _
  · exact ((((((Ext.refl _).alloc _).alloc _).alloc _).trans hcl.out).set (by simp <;> omega) _).set (by simp <;> omega) _

set_option maxRecDepth 100000 in
set_option maxHeartbeats 1600000 in
theorem Rlowest_pos (b b' : Bool) (A A' : Option Addr) (n c n' c' : Nat) (x y : Int) (w : World) (h : IsInt w (.bool b) (.slice A n c) x) (h' : IsInt w (.bool b') (.slice A' n' c') y) (hn : (digs x.natAbs).length ≤ 4398046511103) (hn' : (digs y.natAbs).length ≤ 4398046511103) (hy0 : 0 < y) :
    Calls Tryz.prog 73 #[.agg #[.bool b, .slice A n c], .agg #[.bool b', .slice A' n' c']] w (RetRat (Rat.divInt x y) w) := by
  have hy : Hid (y ≠ 0) := by show y ≠ 0; omega
  have hb2 : Hid (Blk (((w.alloc (.cells #[.bool b, .slice A n c] 72)).alloc (.cells #[.bool b', .slice A' n' c'] 72)).alloc (.cells #[.bool false, .slice none 0 0, .bool false, .slice none 0 0] 74)) w.heap.size 72 #[.bool b, .slice A n c]) := ((Blk.new _ _ _).alloc _).alloc _
  have hb3 : Hid (Blk (((w.alloc (.cells #[.bool b, .slice A n c] 72)).alloc (.cells #[.bool b', .slice A' n' c'] 72)).alloc (.cells #[.bool false, .slice none 0 0, .bool false, .slice none 0 0] 74)) (w.heap.size + 1) 72 #[.bool b', .slice A' n' c']) := (Blk.new' _ _ (by simp)).alloc _
  have hb4 : Hid (Blk (((w.alloc (.cells #[.bool b, .slice A n c] 72)).alloc (.cells #[.bool b', .slice A' n' c'] 72)).alloc (.cells #[.bool false, .slice none 0 0, .bool false, .slice none 0 0] 74)) (w.heap.size + 2) 74 #[.bool false, .slice none 0 0, .bool false, .slice none 0 0]) := Blk.new' _ _ (by simp)
  have hEw : Hid (Ext w (((w.alloc (.cells #[.bool b, .slice A n c] 72)).alloc (.cells #[.bool b', .slice A' n' c'] 72)).alloc (.cells #[.bool false, .slice none 0 0, .bool false, .slice none 0 0] 74))) := (((Ext.refl _).alloc _).alloc _).alloc _
  have hX := hide (h.ext hEw.out)
  have hY := hide (h'.ext hEw.out)
  clear h h'
  replace hn := hide hn
  replace hn' := hide hn'
  have hlg : Hid (((Nat.gcd x.natAbs y.natAbs : Nat) : Int) = lowG x y) := by unfold lowG; rw [if_neg (by omega)]; rfl
  have hsg := hide (Int.sign_eq_one_of_pos hy0)
  clear hy0
  go_enter Tryz.func73, Tryz.ntmps73
  go_wp2_with fail
  refine (Rgcd_any b b' A A' n c n' c' x y _ hX.out hY.out hn.out hn'.out).mono ?_
  rintro e w1 ⟨b5, A5, n5, c5, rfl, hI5, hE1⟩
  have hE2 := hE1.alloc (.cells #[.bool b5, .slice A5 n5 c5] 72)
  replace hb2 := hide (hb2.out.ext hE2)
  replace hb3 := hide (hb3.out.ext hE2)
  replace hb4 := hide (hb4.out.ext hE2)
  replace hX := hide (hX.out.ext hE2)
  replace hY := hide (hY.out.ext hE2)
  replace hEw := hide (hEw.out.trans hE2)
  have hG5 := hide (hI5.ext ((Ext.refl _).alloc (.cells #[.bool b5, .slice A5 n5 c5] 72)))
  have hb5 : Hid (Blk (w1.alloc (.cells #[.bool b5, .slice A5 n5 c5] 72)) w1.heap.size 72 #[.bool b5, .slice A5 n5 c5]) := Blk.new _ _ _
  have n54 : w.heap.size + 2 < w1.heap.size := by have := hE1.size; simp at this; omega
  clear hE2 hE1 hI5
  go_upto_region 2 with (fail)
  generalize (w1.alloc (.cells #[.bool b5, .slice A5 n5 c5] 72)) = w2 at *
  generalize w1.heap.size = G5 at *
  obtain ⟨G2, hG2⟩ : ∃ G2, G2 = w.heap.size := ⟨_, rfl⟩
  obtain ⟨G3, hG3⟩ : ∃ G3, G3 = w.heap.size + 1 := ⟨_, rfl⟩
  obtain ⟨G4, hG4⟩ : ∃ G4, G4 = w.heap.size + 2 := ⟨_, rfl⟩
  rw [← hG4] at hb4 n54 ⊢
  rw [← hG3] at hb3 ⊢
  rw [← hG2] at hb2 ⊢
  have k4 : w.heap.size ≤ G4 := by omega
  have k25 : G2 ≠ G5 := by omega
  have k35 : G3 ≠ G5 := by omega
  have k45 : G4 ≠ G5 := by omega
  clear hG2 hG3 hG4
  have q0 : w2.cell? ⟨G3, 0, none⟩ = some (.bool b') := hb3.out.cell 0
  have q1 : w2.cell? ⟨G3, 1, none⟩ = some (.slice A' n' c') := hb3.out.cell 1
  go_wp2_with fail
  refine (Rsign_any b' A' n' c' y _ hY.out).mono ?_
  rintro e w3 ⟨rfl, hE1⟩
  rw [hsg.out]
  replace hb2 := hide (hb2.out.ext hE1)
  replace hb3 := hide (hb3.out.ext hE1)
  replace hb4 := hide (hb4.out.ext hE1)
  replace hb5 := hide (hb5.out.ext hE1)
  replace hX := hide (hX.out.ext hE1)
  replace hY := hide (hY.out.ext hE1)
  replace hG5 := hide (hG5.out.ext hE1)
  replace hEw := hide (hEw.out.trans hE1)
  clear hE1 q0 q1
  rw [hlg.out] at hG5
  go_upto_region 4 with (fail)
  clear hlg hsg
  refine wp_region_v (by kernel_rfl) [[], [], [(14, 0), (15, 1)], [], [], [(17, 3), (18, 4)], [(16, 2), (19, 5)]] [[], [], [0, 1], [], [], [0, 1, 2, 3, 4], [0, 1, 2, 3, 4, 5]]
    [fun v _ => v = .agg #[.bool b, .slice A n c], fun v _ => v = .agg #[.bool b5, .slice A5 n5 c5], fun v w' => ∃ b A n c, v = .agg #[.bool b, .slice A n c] ∧ IsInt w' (.bool b) (.slice A n c) (x / lowG x y), fun v _ => v = .agg #[.bool b', .slice A' n' c'], fun v _ => v = .agg #[.bool b5, .slice A5 n5 c5], fun v w' => ∃ b A n c, v = .agg #[.bool b, .slice A n c] ∧ IsInt w' (.bool b) (.slice A n c) (y / lowG x y), fun v w' => ∃ b A n c b' A' n' c', v = .agg #[.bool b, .slice A n c, .bool b', .slice A' n' c'] ∧ IsRat w' (.bool b) (.slice A n c) (.bool b') (.slice A' n' c') (Rat.divInt x y)]
    rfl (by kernel_rfl) (by kernel_rfl) ?stab ?steps ?fin
  case stab => exact .cons (Stab.eq _) (.cons (Stab.eq _) (.cons (fun _ _ _ he ⟨b, A, n, c, h1, h2⟩ => ⟨b, A, n, c, h1, h2.ext he⟩) (.cons (Stab.eq _) (.cons (Stab.eq _) (.cons (fun _ _ _ he ⟨b, A, n, c, h1, h2⟩ => ⟨b, A, n, c, h1, h2.ext he⟩) (.cons (fun _ _ _ he ⟨b, A, n, c, b', A', n', c', h1, h2⟩ => ⟨b, A, n, c, b', A', n', c', h1, h2.ext he⟩) .nil))))))
  case steps =>
    refine .cons ?s0 (.cons ?s1 (.cons ?s2 (.cons ?s3 (.cons ?s4 (.cons ?s5 (.cons ?s6 .nil))))))
    case s0 =>
      intro w' ev hE hk ha hc hf
      have e2 : ev (.tmp 2) = .pointer (some ⟨G2, 0, none⟩) := ha 2 (by decide)
      have c0 : w'.cell? ⟨G2, 0, none⟩ = some (.bool b) := hE.cellv (hb2.out.cell 0)
      have c1 : w'.cell? ⟨G2, 1, none⟩ = some (.slice A n c) := hE.cellv (hb2.out.cell 1)
      exact opStep_val (by simp [execOp, e2, c0, c1, go_sem]) rfl
    case s1 =>
      intro w' ev hE hk ha hc hf
      have e5 : ev (.tmp 5) = .pointer (some ⟨G5, 0, none⟩) := ha 5 (by decide)
      have c0 : w'.cell? ⟨G5, 0, none⟩ = some (.bool b5) := hE.cellv (hb5.out.cell 0)
      have c1 : w'.cell? ⟨G5, 1, none⟩ = some (.slice A5 n5 c5) := hE.cellv (hb5.out.cell 1)
      exact opStep_val (by simp [execOp, e5, c0, c1, go_sem]) rfl
    case s2 =>
      intro w' ev hE hk ha hc hf
      have e14 : ev (.tmp 14) = .agg #[.bool b, .slice A n c] := hk.1 _ rfl
      have e15 : ev (.tmp 15) = .agg #[.bool b5, .slice A5 n5 c5] := hk.2.1 _ rfl
      refine opStep_call (by simp [execOp, resolve, invoke, hf, e14, e15, go_sem]) (Rexact_any b b5 A A5 n c n5 c5 x (lowG x y) _ (hX.out.ext ((Ext.refl _).drew.trans hE)) (hG5.out.ext ((Ext.refl _).drew.trans hE)) hn.out (lowG_len hy.out (Nat.le_succ_of_le hn'.out)) (lowG_ne hy.out)) ?_
      rintro e w1 ⟨b1, A1, n1, k1, rfl, hI1, hE1⟩
      exact ⟨_, rfl, hE1, b1, A1, n1, k1, rfl, hI1⟩
    case s3 =>
      intro w' ev hE hk ha hc hf
      have e3 : ev (.tmp 3) = .pointer (some ⟨G3, 0, none⟩) := ha 3 (by decide)
      have c0 : w'.cell? ⟨G3, 0, none⟩ = some (.bool b') := hE.cellv (hb3.out.cell 0)
      have c1 : w'.cell? ⟨G3, 1, none⟩ = some (.slice A' n' c') := hE.cellv (hb3.out.cell 1)
      exact opStep_val (by simp [execOp, e3, c0, c1, go_sem]) rfl
    case s4 =>
      intro w' ev hE hk ha hc hf
      have e5 : ev (.tmp 5) = .pointer (some ⟨G5, 0, none⟩) := ha 5 (by decide)
      have c0 : w'.cell? ⟨G5, 0, none⟩ = some (.bool b5) := hE.cellv (hb5.out.cell 0)
      have c1 : w'.cell? ⟨G5, 1, none⟩ = some (.slice A5 n5 c5) := hE.cellv (hb5.out.cell 1)
      exact opStep_val (by simp [execOp, e5, c0, c1, go_sem]) rfl
    case s5 =>
      intro w' ev hE hk ha hc hf
      have e17 : ev (.tmp 17) = .agg #[.bool b', .slice A' n' c'] := hk.1 _ rfl
      have e18 : ev (.tmp 18) = .agg #[.bool b5, .slice A5 n5 c5] := hk.2.1 _ rfl
      refine opStep_call (by simp [execOp, resolve, invoke, hf, e17, e18, go_sem]) (Rexact_any b' b5 A' A5 n' c' n5 c5 y (lowG x y) _ (hY.out.ext ((Ext.refl _).drew.trans hE)) (hG5.out.ext ((Ext.refl _).drew.trans hE)) hn'.out (lowG_len hy.out (Nat.le_succ_of_le hn'.out)) (lowG_ne hy.out)) ?_
      rintro e w1 ⟨b1, A1, n1, k1, rfl, hI1, hE1⟩
      exact ⟨_, rfl, hE1, b1, A1, n1, k1, rfl, hI1⟩
    case s6 =>
      intro w' ev hE hk ha hc hf
      have f16 := hk.1 _ rfl
      have f19 := hk.2.1 _ rfl
      obtain ⟨b6, A6, n6, c6, e16, hw16⟩ := f16
      obtain ⟨b7, A7, n7, c7, e19, hw19⟩ := f19
      exact opStep_val (v := .agg #[.bool b6, .slice A6 n6 c6, .bool b7, .slice A7 n7 c7]) (by simp [execOp, e16, e19, go_sem]) ⟨b6, A6, n6, c6, b7, A7, n7, c7, rfl, by rw [(lowG_parts hy.out).1]; exact hw16, by rw [(lowG_parts hy.out).2]; exact hw19⟩
  case fin =>
    intro gf w' hE hF
    obtain ⟨b8, A8, n8, c8', b9, A9, n9, c9, e8, hI8⟩ := hF 6 _ rfl
    replace hE := hide ((Ext.refl _).drew.trans hE)
    have hb4' := hb4.out.ext hE.out
    have z0 : w'.cell? ⟨G4, 0, none⟩ = some (.bool false) := hb4'.cell 0
    have z1 : w'.cell? ⟨G4, 1, none⟩ = some (.slice none 0 0) := hb4'.cell 1
    have z2 : w'.cell? ⟨G4, 2, none⟩ = some (.bool false) := hb4'.cell 2
    have z3 : w'.cell? ⟨G4, 3, none⟩ = some (.slice none 0 0) := hb4'.cell 3
    have y0 := hb4'.frozen 0
    have y1 := hb4'.frozen 1
    have y2 := hb4'.frozen 2
    have y3 := hb4'.frozen 3
    have ht : Ty w' G4 74 := hb4'.ty
    simp only [List.length_cons, List.length_nil, Nat.reduceAdd, List.drop_succ_cons, List.drop_zero, List.take_succ_cons, List.take_zero, putG, Act.put, List.setIfInBounds_toArray, List.set_cons_succ, List.set_cons_zero, e8]
    replace hI8 := hide hI8
    replace hb4' := hide hb4'
    clear hF e8
    go_wp2
    refine bodyPost_ret (v := .agg #[.bool b8, .slice A8 n8 c8', .bool b9, .slice A9 n9 c9]) (by simp [results, Tryz.results73, go_sem, z0, z1, z2, z3]) rfl ⟨_, _, _, _, _, _, _, _, rfl, ?_, ?_⟩
    · exact hI8.out.put4 (b := G4) ht (by decide) (.bool b8) (.slice A8 n8 c8') (.bool b9) (.slice A9 n9 c9)
    · exact (hEw.out.trans hE.out).put4 (b := G4) (by omega) (.bool b8) (.slice A8 n8 c8') (.bool b9) (.slice A9 n9 c9)

set_option maxRecDepth 100000 in
set_option maxHeartbeats 1600000 in
theorem Rlowest_neg (b b' : Bool) (A A' : Option Addr) (n c n' c' : Nat) (x y : Int) (w : World) (h : IsInt w (.bool b) (.slice A n c) x) (h' : IsInt w (.bool b') (.slice A' n' c') y) (hn : (digs x.natAbs).length ≤ 4398046511103) (hn' : (digs y.natAbs).length ≤ 4398046511103) (hy0 : y < 0) :
    Calls Tryz.prog 73 #[.agg #[.bool b, .slice A n c], .agg #[.bool b', .slice A' n' c']] w (RetRat (Rat.divInt x y) w) := by
  have hy : Hid (y ≠ 0) := by show y ≠ 0; omega
  have hb2 : Hid (Blk (((w.alloc (.cells #[.bool b, .slice A n c] 72)).alloc (.cells #[.bool b', .slice A' n' c'] 72)).alloc (.cells #[.bool false, .slice none 0 0, .bool false, .slice none 0 0] 74)) w.heap.size 72 #[.bool b, .slice A n c]) := ((Blk.new _ _ _).alloc _).alloc _
  have hb3 : Hid (Blk (((w.alloc (.cells #[.bool b, .slice A n c] 72)).alloc (.cells #[.bool b', .slice A' n' c'] 72)).alloc (.cells #[.bool false, .slice none 0 0, .bool false, .slice none 0 0] 74)) (w.heap.size + 1) 72 #[.bool b', .slice A' n' c']) := (Blk.new' _ _ (by simp)).alloc _
  have hb4 : Hid (Blk (((w.alloc (.cells #[.bool b, .slice A n c] 72)).alloc (.cells #[.bool b', .slice A' n' c'] 72)).alloc (.cells #[.bool false, .slice none 0 0, .bool false, .slice none 0 0] 74)) (w.heap.size + 2) 74 #[.bool false, .slice none 0 0, .bool false, .slice none 0 0]) := Blk.new' _ _ (by simp)
  have hEw : Hid (Ext w (((w.alloc (.cells #[.bool b, .slice A n c] 72)).alloc (.cells #[.bool b', .slice A' n' c'] 72)).alloc (.cells #[.bool false, .slice none 0 0, .bool false, .slice none 0 0] 74))) := (((Ext.refl _).alloc _).alloc _).alloc _
  have hX := hide (h.ext hEw.out)
  have hY := hide (h'.ext hEw.out)
  clear h h'
  replace hn := hide hn
  replace hn' := hide hn'
  have hlg : Hid (-((Nat.gcd x.natAbs y.natAbs : Nat) : Int) = lowG x y) := by unfold lowG; rw [if_pos hy0]; rfl
  have hsg := hide (Int.sign_eq_neg_one_of_neg hy0)
  clear hy0
  go_enter Tryz.func73, Tryz.ntmps73
  go_wp2_with fail
  refine (Rgcd_any b b' A A' n c n' c' x y _ hX.out hY.out hn.out hn'.out).mono ?_
  rintro e w1 ⟨b5, A5, n5, c5, rfl, hI5, hE1⟩
  have hE2 := hE1.alloc (.cells #[.bool b5, .slice A5 n5 c5] 72)
  replace hb2 := hide (hb2.out.ext hE2)
  replace hb3 := hide (hb3.out.ext hE2)
  replace hb4 := hide (hb4.out.ext hE2)
  replace hX := hide (hX.out.ext hE2)
  replace hY := hide (hY.out.ext hE2)
  replace hEw := hide (hEw.out.trans hE2)
  have hG5 := hide (hI5.ext ((Ext.refl _).alloc (.cells #[.bool b5, .slice A5 n5 c5] 72)))
  have hb5 : Hid (Blk (w1.alloc (.cells #[.bool b5, .slice A5 n5 c5] 72)) w1.heap.size 72 #[.bool b5, .slice A5 n5 c5]) := Blk.new _ _ _
  have n54 : w.heap.size + 2 < w1.heap.size := by have := hE1.size; simp at this; omega
  clear hE2 hE1 hI5
  go_upto_region 2 with (fail)
  generalize (w1.alloc (.cells #[.bool b5, .slice A5 n5 c5] 72)) = w2 at *
  generalize w1.heap.size = G5 at *
  obtain ⟨G2, hG2⟩ : ∃ G2, G2 = w.heap.size := ⟨_, rfl⟩
  obtain ⟨G3, hG3⟩ : ∃ G3, G3 = w.heap.size + 1 := ⟨_, rfl⟩
  obtain ⟨G4, hG4⟩ : ∃ G4, G4 = w.heap.size + 2 := ⟨_, rfl⟩
  rw [← hG4] at hb4 n54 ⊢
  rw [← hG3] at hb3 ⊢
  rw [← hG2] at hb2 ⊢
  have k4 : w.heap.size ≤ G4 := by omega
  have k25 : G2 ≠ G5 := by omega
  have k35 : G3 ≠ G5 := by omega
  have k45 : G4 ≠ G5 := by omega
  clear hG2 hG3 hG4
  have q0 : w2.cell? ⟨G3, 0, none⟩ = some (.bool b') := hb3.out.cell 0
  have q1 : w2.cell? ⟨G3, 1, none⟩ = some (.slice A' n' c') := hb3.out.cell 1
  go_wp2_with fail
  refine (Rsign_any b' A' n' c' y _ hY.out).mono ?_
  rintro e w3 ⟨rfl, hE1⟩
  rw [hsg.out]
  replace hb2 := hide (hb2.out.ext hE1)
  replace hb3 := hide (hb3.out.ext hE1)
  replace hb4 := hide (hb4.out.ext hE1)
  replace hb5 := hide (hb5.out.ext hE1)
  replace hX := hide (hX.out.ext hE1)
  replace hY := hide (hY.out.ext hE1)
  replace hG5 := hide (hG5.out.ext hE1)
  replace hEw := hide (hEw.out.trans hE1)
  clear hE1 q0 q1
  have q0 : w3.cell? ⟨G5, 0, none⟩ = some (.bool b5) := hb5.out.cell 0
  have q1 : w3.cell? ⟨G5, 1, none⟩ = some (.slice A5 n5 c5) := hb5.out.cell 1
  go_wp2_with fail
  refine (Rneg_any b5 A5 n5 c5 _ _ hG5.out).mono ?_
  rintro e w4 ⟨b5', A5', n5', c5', rfl, hI5, hE1⟩
  rw [hlg.out] at hI5
  clear hG5 q0 q1
  have ht5 := (hb5.out.ext hE1).ty
  have q0 : w4.cell? ⟨G5, 0, none⟩ = some (.bool b5) := (hb5.out.ext hE1).cell 0
  have q1 : w4.cell? ⟨G5, 1, none⟩ = some (.slice A5 n5 c5) := (hb5.out.ext hE1).cell 1
  have z0 := (hb5.out.ext hE1).frozen 0
  have z1 := (hb5.out.ext hE1).frozen 1
  have hG5 : Hid (IsInt (put2 w4 G5 (.bool b5') (.slice A5' n5' c5')) (.bool b5') (.slice A5' n5' c5') (lowG x y)) := hI5.put2 ht5 (by decide) _ _
  replace hX : Hid (IsInt (put2 w4 G5 (.bool b5') (.slice A5' n5' c5')) (.bool b) (.slice A n c) x) := (hX.out.ext hE1).put2 ht5 (by decide) _ _
  replace hY : Hid (IsInt (put2 w4 G5 (.bool b5') (.slice A5' n5' c5')) (.bool b') (.slice A' n' c') y) := (hY.out.ext hE1).put2 ht5 (by decide) _ _
  replace hb2 : Hid (Blk (put2 w4 G5 (.bool b5') (.slice A5' n5' c5')) G2 72 #[.bool b, .slice A n c]) := (((hb2.out.ext hE1).far (p := ⟨G5, 0, none⟩) k25 _).far (p := ⟨G5, 1, none⟩) k25 _)
  replace hb3 : Hid (Blk (put2 w4 G5 (.bool b5') (.slice A5' n5' c5')) G3 72 #[.bool b', .slice A' n' c']) := (((hb3.out.ext hE1).far (p := ⟨G5, 0, none⟩) k35 _).far (p := ⟨G5, 1, none⟩) k35 _)
  replace hb4 : Hid (Blk (put2 w4 G5 (.bool b5') (.slice A5' n5' c5')) G4 74 #[.bool false, .slice none 0 0, .bool false, .slice none 0 0]) := (((hb4.out.ext hE1).far (p := ⟨G5, 0, none⟩) k45 _).far (p := ⟨G5, 1, none⟩) k45 _)
  replace hb5 : Hid (Blk (put2 w4 G5 (.bool b5') (.slice A5' n5' c5')) G5 72 #[.bool b5', .slice A5' n5' c5']) := ((hb5.out.ext hE1).set 0 _).set 1 _
  replace hEw : Hid (Ext w (put2 w4 G5 (.bool b5') (.slice A5' n5' c5'))) := (hEw.out.trans hE1).put2 (by omega) _ _
  clear hE1 hI5 ht5
  go_upto_region 4 with (fail)
  clear q0 q1 z0 z1
  rw [put2_eq]
  generalize (put2 w4 G5 (.bool b5') (.slice A5' n5' c5')) = w5 at *
  clear hlg hsg
  refine wp_region_v (by kernel_rfl) [[], [], [(14, 0), (15, 1)], [], [], [(17, 3), (18, 4)], [(16, 2), (19, 5)]] [[], [], [0, 1], [], [], [0, 1, 2, 3, 4], [0, 1, 2, 3, 4, 5]]
    [fun v _ => v = .agg #[.bool b, .slice A n c], fun v _ => v = .agg #[.bool b5', .slice A5' n5' c5'], fun v w' => ∃ b A n c, v = .agg #[.bool b, .slice A n c] ∧ IsInt w' (.bool b) (.slice A n c) (x / lowG x y), fun v _ => v = .agg #[.bool b', .slice A' n' c'], fun v _ => v = .agg #[.bool b5', .slice A5' n5' c5'], fun v w' => ∃ b A n c, v = .agg #[.bool b, .slice A n c] ∧ IsInt w' (.bool b) (.slice A n c) (y / lowG x y), fun v w' => ∃ b A n c b' A' n' c', v = .agg #[.bool b, .slice A n c, .bool b', .slice A' n' c'] ∧ IsRat w' (.bool b) (.slice A n c) (.bool b') (.slice A' n' c') (Rat.divInt x y)]
    rfl (by kernel_rfl) (by kernel_rfl) ?stab ?steps ?fin
  case stab => exact .cons (Stab.eq _) (.cons (Stab.eq _) (.cons (fun _ _ _ he ⟨b, A, n, c, h1, h2⟩ => ⟨b, A, n, c, h1, h2.ext he⟩) (.cons (Stab.eq _) (.cons (Stab.eq _) (.cons (fun _ _ _ he ⟨b, A, n, c, h1, h2⟩ => ⟨b, A, n, c, h1, h2.ext he⟩) (.cons (fun _ _ _ he ⟨b, A, n, c, b', A', n', c', h1, h2⟩ => ⟨b, A, n, c, b', A', n', c', h1, h2.ext he⟩) .nil))))))
  case steps =>
    refine .cons ?s0 (.cons ?s1 (.cons ?s2 (.cons ?s3 (.cons ?s4 (.cons ?s5 (.cons ?s6 .nil))))))
    case s0 =>
      intro w' ev hE hk ha hc hf
      have e2 : ev (.tmp 2) = .pointer (some ⟨G2, 0, none⟩) := ha 2 (by decide)
      have c0 : w'.cell? ⟨G2, 0, none⟩ = some (.bool b) := hE.cellv (hb2.out.cell 0)
      have c1 : w'.cell? ⟨G2, 1, none⟩ = some (.slice A n c) := hE.cellv (hb2.out.cell 1)
      exact opStep_val (by simp [execOp, e2, c0, c1, go_sem]) rfl
    case s1 =>
      intro w' ev hE hk ha hc hf
      have e5 : ev (.tmp 5) = .pointer (some ⟨G5, 0, none⟩) := ha 5 (by decide)
      have c0 : w'.cell? ⟨G5, 0, none⟩ = some (.bool b5') := hE.cellv (hb5.out.cell 0)
      have c1 : w'.cell? ⟨G5, 1, none⟩ = some (.slice A5' n5' c5') := hE.cellv (hb5.out.cell 1)
      exact opStep_val (by simp [execOp, e5, c0, c1, go_sem]) rfl
    case s2 =>
      intro w' ev hE hk ha hc hf
      have e14 : ev (.tmp 14) = .agg #[.bool b, .slice A n c] := hk.1 _ rfl
      have e15 : ev (.tmp 15) = .agg #[.bool b5', .slice A5' n5' c5'] := hk.2.1 _ rfl
      refine opStep_call (by simp [execOp, resolve, invoke, hf, e14, e15, go_sem]) (Rexact_any b b5' A A5' n c n5' c5' x (lowG x y) _ (hX.out.ext ((Ext.refl _).drew.trans hE)) (hG5.out.ext ((Ext.refl _).drew.trans hE)) hn.out (lowG_len hy.out (Nat.le_succ_of_le hn'.out)) (lowG_ne hy.out)) ?_
      rintro e w1 ⟨b1, A1, n1, k1, rfl, hI1, hE1⟩
      exact ⟨_, rfl, hE1, b1, A1, n1, k1, rfl, hI1⟩
    case s3 =>
      intro w' ev hE hk ha hc hf
      have e3 : ev (.tmp 3) = .pointer (some ⟨G3, 0, none⟩) := ha 3 (by decide)
      have c0 : w'.cell? ⟨G3, 0, none⟩ = some (.bool b') := hE.cellv (hb3.out.cell 0)
      have c1 : w'.cell? ⟨G3, 1, none⟩ = some (.slice A' n' c') := hE.cellv (hb3.out.cell 1)
      exact opStep_val (by simp [execOp, e3, c0, c1, go_sem]) rfl
    case s4 =>
      intro w' ev hE hk ha hc hf
      have e5 : ev (.tmp 5) = .pointer (some ⟨G5, 0, none⟩) := ha 5 (by decide)
      have c0 : w'.cell? ⟨G5, 0, none⟩ = some (.bool b5') := hE.cellv (hb5.out.cell 0)
      have c1 : w'.cell? ⟨G5, 1, none⟩ = some (.slice A5' n5' c5') := hE.cellv (hb5.out.cell 1)
      exact opStep_val (by simp [execOp, e5, c0, c1, go_sem]) rfl
    case s5 =>
      intro w' ev hE hk ha hc hf
      have e17 : ev (.tmp 17) = .agg #[.bool b', .slice A' n' c'] := hk.1 _ rfl
      have e18 : ev (.tmp 18) = .agg #[.bool b5', .slice A5' n5' c5'] := hk.2.1 _ rfl
      refine opStep_call (by simp [execOp, resolve, invoke, hf, e17, e18, go_sem]) (Rexact_any b' b5' A' A5' n' c' n5' c5' y (lowG x y) _ (hY.out.ext ((Ext.refl _).drew.trans hE)) (hG5.out.ext ((Ext.refl _).drew.trans hE)) hn'.out (lowG_len hy.out (Nat.le_succ_of_le hn'.out)) (lowG_ne hy.out)) ?_
      rintro e w1 ⟨b1, A1, n1, k1, rfl, hI1, hE1⟩
      exact ⟨_, rfl, hE1, b1, A1, n1, k1, rfl, hI1⟩
    case s6 =>
      intro w' ev hE hk ha hc hf
      have f16 := hk.1 _ rfl
      have f19 := hk.2.1 _ rfl
      obtain ⟨b6, A6, n6, c6, e16, hw16⟩ := f16
      obtain ⟨b7, A7, n7, c7, e19, hw19⟩ := f19
      exact opStep_val (v := .agg #[.bool b6, .slice A6 n6 c6, .bool b7, .slice A7 n7 c7]) (by simp [execOp, e16, e19, go_sem]) ⟨b6, A6, n6, c6, b7, A7, n7, c7, rfl, by rw [(lowG_parts hy.out).1]; exact hw16, by rw [(lowG_parts hy.out).2]; exact hw19⟩
  case fin =>
    intro gf w' hE hF
    obtain ⟨b8, A8, n8, c8', b9, A9, n9, c9, e8, hI8⟩ := hF 6 _ rfl
    replace hE := hide ((Ext.refl _).drew.trans hE)
    have hb4' := hb4.out.ext hE.out
    have z0 : w'.cell? ⟨G4, 0, none⟩ = some (.bool false) := hb4'.cell 0
    have z1 : w'.cell? ⟨G4, 1, none⟩ = some (.slice none 0 0) := hb4'.cell 1
    have z2 : w'.cell? ⟨G4, 2, none⟩ = some (.bool false) := hb4'.cell 2
    have z3 : w'.cell? ⟨G4, 3, none⟩ = some (.slice none 0 0) := hb4'.cell 3
    have y0 := hb4'.frozen 0
    have y1 := hb4'.frozen 1
    have y2 := hb4'.frozen 2
    have y3 := hb4'.frozen 3
    have ht : Ty w' G4 74 := hb4'.ty
    simp only [List.length_cons, List.length_nil, Nat.reduceAdd, List.drop_succ_cons, List.drop_zero, List.take_succ_cons, List.take_zero, putG, Act.put, List.setIfInBounds_toArray, List.set_cons_succ, List.set_cons_zero, e8]
    replace hI8 := hide hI8
    replace hb4' := hide hb4'
    clear hF e8
    go_wp2
    refine bodyPost_ret (v := .agg #[.bool b8, .slice A8 n8 c8', .bool b9, .slice A9 n9 c9]) (by simp [results, Tryz.results73, go_sem, z0, z1, z2, z3]) rfl ⟨_, _, _, _, _, _, _, _, rfl, ?_, ?_⟩
    · exact hI8.out.put4 (b := G4) ht (by decide) (.bool b8) (.slice A8 n8 c8') (.bool b9) (.slice A9 n9 c9)
    · exact (hEw.out.trans hE.out).put4 (b := G4) (by omega) (.bool b8) (.slice A8 n8 c8') (.bool b9) (.slice A9 n9 c9)

theorem Rlowest_any (b b' : Bool) (A A' : Option Addr) (n c n' c' : Nat) (x y : Int) (w : World) (h : IsInt w (.bool b) (.slice A n c) x) (h' : IsInt w (.bool b') (.slice A' n' c') y) (hn : (digs x.natAbs).length ≤ 4398046511103) (hn' : (digs y.natAbs).length ≤ 4398046511103) (hy : y ≠ 0) :
    Calls Tryz.prog 73 #[.agg #[.bool b, .slice A n c], .agg #[.bool b', .slice A' n' c']] w (RetRat (Rat.divInt x y) w) := by
  by_cases h0 : y < 0
  · exact Rlowest_neg b b' A A' n c n' c' x y w h h' hn hn' h0
  · exact Rlowest_pos b b' A A' n c n' c' x y w h h' hn hn' (by omega)

end Go.Proofs.YteefhmdameeoaaaGreat
