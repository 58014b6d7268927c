/-
  Contracts of the reference's rational numbers: New, Whole, Sign, Neg, Add, Sub, Mul, Inv.
-/
import Derived.Test.YteefhmdameeoaaaGreatRefh
set_option linter.unusedSimpArgs false
set_option linter.unusedVariables false
namespace Go.Proofs.YteefhmdameeoaaaGreat
open Go.RowKit

theorem mul_divInt (p q : Rat) : p * q = Rat.divInt (p.num * q.num) ((p.den : Int) * q.den) := by
  rw [Rat.mul_def, Rat.normalize_eq_mkRat]
  have : ((p.den : Int) * q.den) = ((p.den * q.den : Nat) : Int) := by simp
  rw [this]; rfl
theorem inv_divInt (p : Rat) : p⁻¹ = Rat.divInt p.den p.num := Rat.inv_def p

set_option maxRecDepth 100000 in
set_option maxHeartbeats 1600000 in
theorem RWhole_any (z : Int) (w : World) (h0 : -9223372036854775808 ≤ z) (h1 : z ≤ 9223372036854775807) :
    Calls Tryz.prog 54 #[.int .i64 z] w (RetRat (z : Rat) w) := by
  have hb4 : Hid (Blk (w.alloc (.cells #[.bool false, .slice none 0 0, .bool false, .slice none 0 0] 74)) w.heap.size 74 #[.bool false, .slice none 0 0, .bool false, .slice none 0 0]) := Blk.new _ _ _
  have hEw : Hid (Ext w (w.alloc (.cells #[.bool false, .slice none 0 0, .bool false, .slice none 0 0] 74))) := (Ext.refl _).alloc _
  go_enter Tryz.func54, Tryz.ntmps54
  go_wp2_with fail
  generalize (w.alloc (.cells #[.bool false, .slice none 0 0, .bool false, .slice none 0 0] 74)) = wa at *
  refine (Rof_any z _ h0 h1).mono ?_
  rintro e w1 ⟨b8, A8, n8, c8', rfl, hI1, hE1⟩
  replace hb4 := hide (hb4.out.ext hE1)
  replace hEw := hide (hEw.out.trans hE1)
  replace hI1 := hide hI1
  clear hE1
  go_wp2_with fail
  refine (Rof_any 1 _ (by omega) (by omega)).mono ?_
  rintro e w2 ⟨b9, A9, n9, c9, rfl, hI2, hE1⟩
  replace hb4 := hide (hb4.out.ext hE1)
  replace hEw := hide (hEw.out.trans hE1)
  replace hI1 := hide (hI1.out.ext hE1)
  replace hI2 := hide hI2
  clear hE1
  have z0 : w2.cell? ⟨w.heap.size, 0, none⟩ = some (.bool false) := hb4.out.cell 0
  have z1 : w2.cell? ⟨w.heap.size, 1, none⟩ = some (.slice none 0 0) := hb4.out.cell 1
  have z2 : w2.cell? ⟨w.heap.size, 2, none⟩ = some (.bool false) := hb4.out.cell 2
  have z3 : w2.cell? ⟨w.heap.size, 3, none⟩ = some (.slice none 0 0) := hb4.out.cell 3
  have y0 := hb4.out.frozen 0
  have y1 := hb4.out.frozen 1
  have y2 := hb4.out.frozen 2
  have y3 := hb4.out.frozen 3
  have ht : Ty w2 w.heap.size 74 := hb4.out.ty
  have hI : Hid (IsRat w2 (.bool b8) (.slice A8 n8 c8') (.bool b9) (.slice A9 n9 c9) (z : Rat)) := ⟨hI1.out, hI2.out⟩
  clear hI1 hI2
  go_wp2
  refine bodyPost_ret (v := .agg #[.bool b8, .slice A8 n8 c8', .bool b9, .slice A9 n9 c9]) (by simp [results, Tryz.results54, go_sem, z0, z1, z2, z3]) rfl ⟨_, _, _, _, _, _, _, _, rfl, ?_, ?_⟩
  · exact hI.out.put4 (b := w.heap.size) ht (by decide) (.bool b8) (.slice A8 n8 c8') (.bool b9) (.slice A9 n9 c9)
  · exact hEw.out.put4 (b := w.heap.size) (by omega) (.bool b8) (.slice A8 n8 c8') (.bool b9) (.slice A9 n9 c9)

set_option maxRecDepth 100000 in
set_option maxHeartbeats 1600000 in
theorem RSign_any (b b' : Bool) (A A' : Option Addr) (n c n' c' : Nat) (p : Rat) (w : World) (h : IsRat w (.bool b) (.slice A n c) (.bool b') (.slice A' n' c') p) :
    Calls Tryz.prog 56 #[.agg #[.bool b, .slice A n c, .bool b', .slice A' n' c']] w (fun e w' => e = .returned (.int .i64 p.num.sign) ∧ Ext w w') := by
  replace h := hide h
  go_enter Tryz.func56, Tryz.ntmps56
  go_wp2_with fail
  refine (Rsign_any b A n c _ _ (h.out.1.ext ((Ext.refl _).alloc _))).mono ?_
  rintro e w1 ⟨rfl, hE1⟩
  replace hE1 := hide hE1
  go_wp2
  go_ret
  exact ⟨rfl, ((Ext.refl _).alloc _).trans hE1.out⟩

set_option maxRecDepth 100000 in
set_option maxHeartbeats 1600000 in
theorem RNeg_any (b b' : Bool) (A A' : Option Addr) (n c n' c' : Nat) (p : Rat) (w : World) (h : IsRat w (.bool b) (.slice A n c) (.bool b') (.slice A' n' c') p) :
    Calls Tryz.prog 96 #[.agg #[.bool b, .slice A n c, .bool b', .slice A' n' c']] w (RetRat (-p) w) := by
  have hb2 : Hid (Blk ((w.alloc (.cells #[.bool b, .slice A n c, .bool b', .slice A' n' c'] 74)).alloc (.cells #[.bool false, .slice none 0 0, .bool false, .slice none 0 0] 74)) w.heap.size 74 #[.bool b, .slice A n c, .bool b', .slice A' n' c']) := (Blk.new _ _ _).alloc _
  have hb4 : Hid (Blk ((w.alloc (.cells #[.bool b, .slice A n c, .bool b', .slice A' n' c'] 74)).alloc (.cells #[.bool false, .slice none 0 0, .bool false, .slice none 0 0] 74)) (w.heap.size + 1) 74 #[.bool false, .slice none 0 0, .bool false, .slice none 0 0]) := Blk.new' _ _ (by simp)
  have hEw : Hid (Ext w ((w.alloc (.cells #[.bool b, .slice A n c, .bool b', .slice A' n' c'] 74)).alloc (.cells #[.bool false, .slice none 0 0, .bool false, .slice none 0 0] 74))) := ((Ext.refl _).alloc _).alloc _
  have hX := hide (h.ext hEw.out)
  clear h
  go_enter Tryz.func96, Tryz.ntmps96
  go_upto_region 1 with (fail)
  generalize ((w.alloc (.cells #[.bool b, .slice A n c, .bool b', .slice A' n' c'] 74)).alloc (.cells #[.bool false, .slice none 0 0, .bool false, .slice none 0 0] 74)) = wq at *
  obtain ⟨G2, hG2⟩ : ∃ G2, G2 = w.heap.size := ⟨_, rfl⟩
  obtain ⟨G4, hG4⟩ : ∃ G4, G4 = w.heap.size + 1 := ⟨_, rfl⟩
  rw [← hG4] at hb4 ⊢
  rw [← hG2] at hb2 ⊢
  have k4 : w.heap.size ≤ G4 := by omega
  clear hG2 hG4
  refine wp_region_v (by kernel_rfl) [[], [(3, 0)], [(4, 1)], [], [(6, 3)], [(5, 2), (7, 4)]] [[], [0], [0, 1], [], [3], [0, 1, 2, 3, 4]]
    [fun v _ => v = .pointer (some ⟨G2, 0, none⟩), fun v _ => v = .agg #[.bool b, .slice A n c], fun v w' => ∃ b A n c, v = .agg #[.bool b, .slice A n c] ∧ IsInt w' (.bool b) (.slice A n c) (-p.num), fun v _ => v = .pointer (some ⟨G2, 2, none⟩), fun v _ => v = .agg #[.bool b', .slice A' n' c'], fun v w' => ∃ b A n c b' A' n' c', v = .agg #[.bool b, .slice A n c, .bool b', .slice A' n' c'] ∧ IsRat w' (.bool b) (.slice A n c) (.bool b') (.slice A' n' c') (-p)]
    rfl (by kernel_rfl) (by kernel_rfl) ?stab ?steps ?fin
  case stab => exact .cons (Stab.eq _) (.cons (Stab.eq _) (.cons (fun _ _ _ he ⟨b, A, n, c, h1, h2⟩ => ⟨b, A, n, c, h1, h2.ext he⟩) (.cons (Stab.eq _) (.cons (Stab.eq _) (.cons (fun _ _ _ he ⟨b, A, n, c, b', A', n', c', h1, h2⟩ => ⟨b, A, n, c, b', A', n', c', h1, h2.ext he⟩) .nil)))))
  case steps =>
    refine .cons ?s0 (.cons ?s1 (.cons ?s2 (.cons ?s3 (.cons ?s4 (.cons ?s5 .nil)))))
    case s0 =>
      intro w' ev hE hk ha hc hf
      have e1 : ev (.tmp 1) = .pointer (some ⟨G2, 0, none⟩) := ha 1 (by decide)
      exact opStep_val (by simp [execOp, e1, go_sem]) rfl
    case s1 =>
      intro w' ev hE hk ha hc hf
      have e3 : ev (.tmp 3) = .pointer (some ⟨G2, 0, none⟩) := hk.1 _ rfl
      have c0 : w'.cell? ⟨G2, 0, none⟩ = some (.bool b) := hE.cellv ((hb2.out.cell 0))
      have c1 : w'.cell? ⟨G2, 1, none⟩ = some (.slice A n c) := hE.cellv ((hb2.out.cell 1))
      exact opStep_val (by simp [execOp, e3, c0, c1, go_sem]) rfl
    case s2 =>
      intro w' ev hE hk ha hc hf
      have e4 : ev (.tmp 4) = .agg #[.bool b, .slice A n c] := hk.1 _ rfl
      refine opStep_call (by simp [execOp, resolve, invoke, hf, e4, go_sem]) (Rneg_any b A n c _ _ (hX.out.1.ext ((Ext.refl _).drew.trans hE))) ?_
      rintro e w1 ⟨b1, A1, n1, k1, rfl, hI1, hE1⟩
      exact ⟨_, rfl, hE1, b1, A1, n1, k1, rfl, hI1⟩
    case s3 =>
      intro w' ev hE hk ha hc hf
      have e1 : ev (.tmp 1) = .pointer (some ⟨G2, 0, none⟩) := ha 1 (by decide)
      exact opStep_val (by simp [execOp, e1, go_sem]) rfl
    case s4 =>
      intro w' ev hE hk ha hc hf
      have e6 : ev (.tmp 6) = .pointer (some ⟨G2, 2, none⟩) := hk.1 _ rfl
      have c0 : w'.cell? ⟨G2, 2, none⟩ = some (.bool b') := hE.cellv ((hb2.out.cell 2))
      have c1 : w'.cell? ⟨G2, 3, none⟩ = some (.slice A' n' c') := hE.cellv ((hb2.out.cell 3))
      exact opStep_val (by simp [execOp, e6, c0, c1, go_sem]) rfl
    case s5 =>
      intro w' ev hE hk ha hc hf
      have f5 := hk.1 _ rfl
      have e7 : ev (.tmp 7) = .agg #[.bool b', .slice A' n' c'] := hk.2.1 _ rfl
      obtain ⟨b6, A6, n6, c6, e5, hw5⟩ := f5
      exact opStep_val (v := .agg #[.bool b6, .slice A6 n6 c6, .bool b', .slice A' n' c']) (by simp [execOp, e5, e7, go_sem]) ⟨b6, A6, n6, c6, _, _, _, _, rfl, hw5, hX.out.2.ext ((Ext.refl _).drew.trans hE)⟩
  case fin =>
    intro gf w' hE hF
    obtain ⟨b8, A8, n8, c8', b9, A9, n9, c9, e8, hI8⟩ := hF 5 _ rfl
    replace hE := hide ((Ext.refl _).drew.trans hE)
    have hb4' := hb4.out.ext hE.out
    have z0 : w'.cell? ⟨G4, 0, none⟩ = some (.bool false) := hb4'.cell 0
    have z1 : w'.cell? ⟨G4, 1, none⟩ = some (.slice none 0 0) := hb4'.cell 1
    have z2 : w'.cell? ⟨G4, 2, none⟩ = some (.bool false) := hb4'.cell 2
    have z3 : w'.cell? ⟨G4, 3, none⟩ = some (.slice none 0 0) := hb4'.cell 3
    have y0 := hb4'.frozen 0
    have y1 := hb4'.frozen 1
    have y2 := hb4'.frozen 2
    have y3 := hb4'.frozen 3
    have ht : Ty w' G4 74 := hb4'.ty
    simp only [List.length_cons, List.length_nil, Nat.reduceAdd, List.drop_succ_cons, List.drop_zero, List.take_succ_cons, List.take_zero, putG, Act.put, List.setIfInBounds_toArray, List.set_cons_succ, List.set_cons_zero, e8]
    replace hI8 := hide hI8
    replace hb4' := hide hb4'
    clear hF e8
    go_wp2
    refine bodyPost_ret (v := .agg #[.bool b8, .slice A8 n8 c8', .bool b9, .slice A9 n9 c9]) (by simp [results, Tryz.results96, go_sem, z0, z1, z2, z3]) rfl ⟨_, _, _, _, _, _, _, _, rfl, ?_, ?_⟩
    · exact hI8.out.put4 (b := G4) ht (by decide) (.bool b8) (.slice A8 n8 c8') (.bool b9) (.slice A9 n9 c9)
    · exact (hEw.out.trans hE.out).put4 (b := G4) (by omega) (.bool b8) (.slice A8 n8 c8') (.bool b9) (.slice A9 n9 c9)

set_option maxRecDepth 100000 in
set_option maxHeartbeats 1600000 in
theorem RMul_any (b b' : Bool) (A A' : Option Addr) (n c n' c' : Nat) (d d' : Bool) (E E' : Option Addr) (m k m' k' : Nat) (p q : Rat) (N M : Nat) (w : World) (h : IsRat w (.bool b) (.slice A n c) (.bool b') (.slice A' n' c') p) (h' : IsRat w (.bool d) (.slice E m k) (.bool d') (.slice E' m' k') q) (hp : RSz p N) (hq : RSz q M) (hN : N + M ≤ 4398046511103) :
    Calls Tryz.prog 58 #[.agg #[.bool b, .slice A n c, .bool b', .slice A' n' c'], .agg #[.bool d, .slice E m k, .bool d', .slice E' m' k']] w (RetRat (p * q) w) := by
  have hb2 : Hid (Blk (((w.alloc (.cells #[.bool b, .slice A n c, .bool b', .slice A' n' c'] 74)).alloc (.cells #[.bool d, .slice E m k, .bool d', .slice E' m' k'] 74)).alloc (.cells #[.bool false, .slice none 0 0, .bool false, .slice none 0 0] 74)) w.heap.size 74 #[.bool b, .slice A n c, .bool b', .slice A' n' c']) := ((Blk.new _ _ _).alloc _).alloc _
  have hb3 : Hid (Blk (((w.alloc (.cells #[.bool b, .slice A n c, .bool b', .slice A' n' c'] 74)).alloc (.cells #[.bool d, .slice E m k, .bool d', .slice E' m' k'] 74)).alloc (.cells #[.bool false, .slice none 0 0, .bool false, .slice none 0 0] 74)) (w.heap.size + 1) 74 #[.bool d, .slice E m k, .bool d', .slice E' m' k']) := (Blk.new' _ _ (by simp)).alloc _
  have hb4 : Hid (Blk (((w.alloc (.cells #[.bool b, .slice A n c, .bool b', .slice A' n' c'] 74)).alloc (.cells #[.bool d, .slice E m k, .bool d', .slice E' m' k'] 74)).alloc (.cells #[.bool false, .slice none 0 0, .bool false, .slice none 0 0] 74)) (w.heap.size + 2) 74 #[.bool false, .slice none 0 0, .bool false, .slice none 0 0]) := Blk.new' _ _ (by simp)
  have hEw : Hid (Ext w (((w.alloc (.cells #[.bool b, .slice A n c, .bool b', .slice A' n' c'] 74)).alloc (.cells #[.bool d, .slice E m k, .bool d', .slice E' m' k'] 74)).alloc (.cells #[.bool false, .slice none 0 0, .bool false, .slice none 0 0] 74))) := (((Ext.refl _).alloc _).alloc _).alloc _
  have hX := hide (h.ext hEw.out)
  have hY := hide (h'.ext hEw.out)
  clear h h'
  have l1 := hide hp.1
  have l2 := hide (len_den p hp)
  have l3 := hide hq.1
  have l4 := hide (len_den q hq)
  have l5 := hide (len_mul l1.out l3.out)
  have l6 := hide (len_mul l2.out l4.out)
  replace hp := hide hp
  replace hq := hide hq
  go_enter Tryz.func58, Tryz.ntmps58
  go_upto_region 1 with (fail)
  generalize (((w.alloc (.cells #[.bool b, .slice A n c, .bool b', .slice A' n' c'] 74)).alloc (.cells #[.bool d, .slice E m k, .bool d', .slice E' m' k'] 74)).alloc (.cells #[.bool false, .slice none 0 0, .bool false, .slice none 0 0] 74)) = wq at *
  obtain ⟨G2, hG2⟩ : ∃ G2, G2 = w.heap.size := ⟨_, rfl⟩
  obtain ⟨G3, hG3⟩ : ∃ G3, G3 = w.heap.size + 1 := ⟨_, rfl⟩
  obtain ⟨G4, hG4⟩ : ∃ G4, G4 = w.heap.size + 2 := ⟨_, rfl⟩
  rw [← hG4] at hb4 ⊢
  rw [← hG3] at hb3 ⊢
  rw [← hG2] at hb2 ⊢
  have k4 : w.heap.size ≤ G4 := by omega
  clear hG2 hG3 hG4
  refine wp_region_v (by kernel_rfl) [[], [(5, 0)], [], [(7, 2)], [(6, 1), (8, 3)], [], [(10, 5)], [], [(12, 7)], [(11, 6), (13, 8)], [(9, 4), (14, 9)]] [[], [0], [], [2], [0, 1, 2, 3], [], [5], [], [7], [0, 1, 2, 3, 4, 5, 6, 7, 8], [0, 1, 2, 3, 4, 5, 6, 7, 8, 9]]
    [fun v _ => v = .pointer (some ⟨G2, 0, none⟩), fun v _ => v = .agg #[.bool b, .slice A n c], fun v _ => v = .pointer (some ⟨G3, 0, none⟩), fun v _ => v = .agg #[.bool d, .slice E m k], fun v w' => ∃ b A n c, v = .agg #[.bool b, .slice A n c] ∧ IsInt w' (.bool b) (.slice A n c) (p.num * q.num), fun v _ => v = .pointer (some ⟨G2, 2, none⟩), fun v _ => v = .agg #[.bool b', .slice A' n' c'], fun v _ => v = .pointer (some ⟨G3, 2, none⟩), fun v _ => v = .agg #[.bool d', .slice E' m' k'], fun v w' => ∃ b A n c, v = .agg #[.bool b, .slice A n c] ∧ IsInt w' (.bool b) (.slice A n c) ((p.den : Int) * (q.den : Int)), fun v w' => ∃ b A n c b' A' n' c', v = .agg #[.bool b, .slice A n c, .bool b', .slice A' n' c'] ∧ IsRat w' (.bool b) (.slice A n c) (.bool b') (.slice A' n' c') (p * q)]
    rfl (by kernel_rfl) (by kernel_rfl) ?stab ?steps ?fin
  case stab => exact .cons (Stab.eq _) (.cons (Stab.eq _) (.cons (Stab.eq _) (.cons (Stab.eq _) (.cons (fun _ _ _ he ⟨b, A, n, c, h1, h2⟩ => ⟨b, A, n, c, h1, h2.ext he⟩) (.cons (Stab.eq _) (.cons (Stab.eq _) (.cons (Stab.eq _) (.cons (Stab.eq _) (.cons (fun _ _ _ he ⟨b, A, n, c, h1, h2⟩ => ⟨b, A, n, c, h1, h2.ext he⟩) (.cons (fun _ _ _ he ⟨b, A, n, c, b', A', n', c', h1, h2⟩ => ⟨b, A, n, c, b', A', n', c', h1, h2.ext he⟩) .nil))))))))))
  case steps =>
    refine .cons ?s0 (.cons ?s1 (.cons ?s2 (.cons ?s3 (.cons ?s4 (.cons ?s5 (.cons ?s6 (.cons ?s7 (.cons ?s8 (.cons ?s9 (.cons ?s10 .nil))))))))))
    case s0 =>
      intro w' ev hE hk ha hc hf
      have e2 : ev (.tmp 2) = .pointer (some ⟨G2, 0, none⟩) := ha 2 (by decide)
      exact opStep_val (by simp [execOp, e2, go_sem]) rfl
    case s1 =>
      intro w' ev hE hk ha hc hf
      have e5 : ev (.tmp 5) = .pointer (some ⟨G2, 0, none⟩) := hk.1 _ rfl
      have c0 : w'.cell? ⟨G2, 0, none⟩ = some (.bool b) := hE.cellv ((hb2.out.cell 0))
      have c1 : w'.cell? ⟨G2, 1, none⟩ = some (.slice A n c) := hE.cellv ((hb2.out.cell 1))
      exact opStep_val (by simp [execOp, e5, c0, c1, go_sem]) rfl
    case s2 =>
      intro w' ev hE hk ha hc hf
      have e3 : ev (.tmp 3) = .pointer (some ⟨G3, 0, none⟩) := ha 3 (by decide)
      exact opStep_val (by simp [execOp, e3, go_sem]) rfl
    case s3 =>
      intro w' ev hE hk ha hc hf
      have e7 : ev (.tmp 7) = .pointer (some ⟨G3, 0, none⟩) := hk.1 _ rfl
      have c0 : w'.cell? ⟨G3, 0, none⟩ = some (.bool d) := hE.cellv ((hb3.out.cell 0))
      have c1 : w'.cell? ⟨G3, 1, none⟩ = some (.slice E m k) := hE.cellv ((hb3.out.cell 1))
      exact opStep_val (by simp [execOp, e7, c0, c1, go_sem]) rfl
    case s4 =>
      intro w' ev hE hk ha hc hf
      have e6 : ev (.tmp 6) = .agg #[.bool b, .slice A n c] := hk.1 _ rfl
      have e8 : ev (.tmp 8) = .agg #[.bool d, .slice E m k] := hk.2.1 _ rfl
      refine opStep_call (by simp [execOp, resolve, invoke, hf, e6, e8, go_sem]) (Rmul_any b d A E n c m k _ _ _ (hX.out.1.ext ((Ext.refl _).drew.trans hE)) (hY.out.1.ext ((Ext.refl _).drew.trans hE)) (by have := l1.out; omega) (by have := l3.out; omega)) ?_
      rintro e w1 ⟨b1, A1, n1, k1, rfl, hI1, hE1⟩
      exact ⟨_, rfl, hE1, b1, A1, n1, k1, rfl, hI1⟩
    case s5 =>
      intro w' ev hE hk ha hc hf
      have e2 : ev (.tmp 2) = .pointer (some ⟨G2, 0, none⟩) := ha 2 (by decide)
      exact opStep_val (by simp [execOp, e2, go_sem]) rfl
    case s6 =>
      intro w' ev hE hk ha hc hf
      have e10 : ev (.tmp 10) = .pointer (some ⟨G2, 2, none⟩) := hk.1 _ rfl
      have c0 : w'.cell? ⟨G2, 2, none⟩ = some (.bool b') := hE.cellv ((hb2.out.cell 2))
      have c1 : w'.cell? ⟨G2, 3, none⟩ = some (.slice A' n' c') := hE.cellv ((hb2.out.cell 3))
      exact opStep_val (by simp [execOp, e10, c0, c1, go_sem]) rfl
    case s7 =>
      intro w' ev hE hk ha hc hf
      have e3 : ev (.tmp 3) = .pointer (some ⟨G3, 0, none⟩) := ha 3 (by decide)
      exact opStep_val (by simp [execOp, e3, go_sem]) rfl
    case s8 =>
      intro w' ev hE hk ha hc hf
      have e12 : ev (.tmp 12) = .pointer (some ⟨G3, 2, none⟩) := hk.1 _ rfl
      have c0 : w'.cell? ⟨G3, 2, none⟩ = some (.bool d') := hE.cellv ((hb3.out.cell 2))
      have c1 : w'.cell? ⟨G3, 3, none⟩ = some (.slice E' m' k') := hE.cellv ((hb3.out.cell 3))
      exact opStep_val (by simp [execOp, e12, c0, c1, go_sem]) rfl
    case s9 =>
      intro w' ev hE hk ha hc hf
      have e11 : ev (.tmp 11) = .agg #[.bool b', .slice A' n' c'] := hk.1 _ rfl
      have e13 : ev (.tmp 13) = .agg #[.bool d', .slice E' m' k'] := hk.2.1 _ rfl
      refine opStep_call (by simp [execOp, resolve, invoke, hf, e11, e13, go_sem]) (Rmul_any b' d' A' E' n' c' m' k' _ _ _ (hX.out.2.ext ((Ext.refl _).drew.trans hE)) (hY.out.2.ext ((Ext.refl _).drew.trans hE)) (by have := l2.out; omega) (by have := l4.out; omega)) ?_
      rintro e w1 ⟨b1, A1, n1, k1, rfl, hI1, hE1⟩
      exact ⟨_, rfl, hE1, b1, A1, n1, k1, rfl, hI1⟩
    case s10 =>
      intro w' ev hE hk ha hc hf
      have f9 := hk.1 _ rfl
      have f14 := hk.2.1 _ rfl
      obtain ⟨b9', A9', n9', c9', e9, hw9⟩ := f9
      obtain ⟨b14', A14', n14', c14', e14, hw14⟩ := f14
      refine opStep_call (by simp [execOp, resolve, invoke, hf, e9, e14, go_sem]) (Rlowest_any b9' b14' A9' A14' n9' c9' n14' c14' _ _ _ hw9 hw14 (by have := l5.out; omega) (by have := l6.out; omega) (Int.ne_of_gt (Int.mul_pos (den_pos p) (den_pos q)))) ?_
      rw [← mul_divInt p q]
      rintro e w1 ⟨b1, b2, A1, A2, n1, k1, n2, k2, rfl, hI1, hE1⟩
      exact ⟨_, rfl, hE1, b1, A1, n1, k1, b2, A2, n2, k2, rfl, hI1⟩
  case fin =>
    intro gf w' hE hF
    obtain ⟨b8, A8, n8, c8', b9, A9, n9, c9, e8, hI8⟩ := hF 10 _ rfl
    replace hE := hide ((Ext.refl _).drew.trans hE)
    have hb4' := hb4.out.ext hE.out
    have z0 : w'.cell? ⟨G4, 0, none⟩ = some (.bool false) := hb4'.cell 0
    have z1 : w'.cell? ⟨G4, 1, none⟩ = some (.slice none 0 0) := hb4'.cell 1
    have z2 : w'.cell? ⟨G4, 2, none⟩ = some (.bool false) := hb4'.cell 2
    have z3 : w'.cell? ⟨G4, 3, none⟩ = some (.slice none 0 0) := hb4'.cell 3
    have y0 := hb4'.frozen 0
    have y1 := hb4'.frozen 1
    have y2 := hb4'.frozen 2
    have y3 := hb4'.frozen 3
    have ht : Ty w' G4 74 := hb4'.ty
    simp only [List.length_cons, List.length_nil, Nat.reduceAdd, List.drop_succ_cons, List.drop_zero, List.take_succ_cons, List.take_zero, putG, Act.put, List.setIfInBounds_toArray, List.set_cons_succ, List.set_cons_zero, e8]
    replace hI8 := hide hI8
    replace hb4' := hide hb4'
    clear hF e8
    go_wp2
    refine bodyPost_ret (v := .agg #[.bool b8, .slice A8 n8 c8', .bool b9, .slice A9 n9 c9]) (by simp [results, Tryz.results58, go_sem, z0, z1, z2, z3]) rfl ⟨_, _, _, _, _, _, _, _, rfl, ?_, ?_⟩
    · exact hI8.out.put4 (b := G4) ht (by decide) (.bool b8) (.slice A8 n8 c8') (.bool b9) (.slice A9 n9 c9)
    · exact (hEw.out.trans hE.out).put4 (b := G4) (by omega) (.bool b8) (.slice A8 n8 c8') (.bool b9) (.slice A9 n9 c9)

set_option maxRecDepth 100000 in
set_option maxHeartbeats 1600000 in
theorem RAdd_any (b b' : Bool) (A A' : Option Addr) (n c n' c' : Nat) (d d' : Bool) (E E' : Option Addr) (m k m' k' : Nat) (p q : Rat) (N M : Nat) (w : World) (h : IsRat w (.bool b) (.slice A n c) (.bool b') (.slice A' n' c') p) (h' : IsRat w (.bool d) (.slice E m k) (.bool d') (.slice E' m' k') q) (hp : RSz p N) (hq : RSz q M) (hN : N + M + 1 ≤ 4398046511103) :
    Calls Tryz.prog 95 #[.agg #[.bool b, .slice A n c, .bool b', .slice A' n' c'], .agg #[.bool d, .slice E m k, .bool d', .slice E' m' k']] w (RetRat (p + q) w) := by
  have hb2 : Hid (Blk (((w.alloc (.cells #[.bool b, .slice A n c, .bool b', .slice A' n' c'] 74)).alloc (.cells #[.bool d, .slice E m k, .bool d', .slice E' m' k'] 74)).alloc (.cells #[.bool false, .slice none 0 0, .bool false, .slice none 0 0] 74)) w.heap.size 74 #[.bool b, .slice A n c, .bool b', .slice A' n' c']) := ((Blk.new _ _ _).alloc _).alloc _
  have hb3 : Hid (Blk (((w.alloc (.cells #[.bool b, .slice A n c, .bool b', .slice A' n' c'] 74)).alloc (.cells #[.bool d, .slice E m k, .bool d', .slice E' m' k'] 74)).alloc (.cells #[.bool false, .slice none 0 0, .bool false, .slice none 0 0] 74)) (w.heap.size + 1) 74 #[.bool d, .slice E m k, .bool d', .slice E' m' k']) := (Blk.new' _ _ (by simp)).alloc _
  have hb4 : Hid (Blk (((w.alloc (.cells #[.bool b, .slice A n c, .bool b', .slice A' n' c'] 74)).alloc (.cells #[.bool d, .slice E m k, .bool d', .slice E' m' k'] 74)).alloc (.cells #[.bool false, .slice none 0 0, .bool false, .slice none 0 0] 74)) (w.heap.size + 2) 74 #[.bool false, .slice none 0 0, .bool false, .slice none 0 0]) := Blk.new' _ _ (by simp)
  have hEw : Hid (Ext w (((w.alloc (.cells #[.bool b, .slice A n c, .bool b', .slice A' n' c'] 74)).alloc (.cells #[.bool d, .slice E m k, .bool d', .slice E' m' k'] 74)).alloc (.cells #[.bool false, .slice none 0 0, .bool false, .slice none 0 0] 74))) := (((Ext.refl _).alloc _).alloc _).alloc _
  have hX := hide (h.ext hEw.out)
  have hY := hide (h'.ext hEw.out)
  clear h h'
  have l1 := hide hp.1
  have l2 := hide (len_den p hp)
  have l3 := hide hq.1
  have l4 := hide (len_den q hq)
  have l5 := hide (len_mul l1.out l4.out)
  have l6 := hide (len_mul l3.out l2.out)
  have l7 := hide (len_add l5.out (by have := l6.out; rw [Nat.add_comm M N] at this; exact this))
  have l8 := hide (len_mul l2.out l4.out)
  replace hp := hide hp
  replace hq := hide hq
  go_enter Tryz.func95, Tryz.ntmps95
  go_upto_region 1 with (fail)
  generalize (((w.alloc (.cells #[.bool b, .slice A n c, .bool b', .slice A' n' c'] 74)).alloc (.cells #[.bool d, .slice E m k, .bool d', .slice E' m' k'] 74)).alloc (.cells #[.bool false, .slice none 0 0, .bool false, .slice none 0 0] 74)) = wq at *
  obtain ⟨G2, hG2⟩ : ∃ G2, G2 = w.heap.size := ⟨_, rfl⟩
  obtain ⟨G3, hG3⟩ : ∃ G3, G3 = w.heap.size + 1 := ⟨_, rfl⟩
  obtain ⟨G4, hG4⟩ : ∃ G4, G4 = w.heap.size + 2 := ⟨_, rfl⟩
  rw [← hG4] at hb4 ⊢
  rw [← hG3] at hb3 ⊢
  rw [← hG2] at hb2 ⊢
  have k4 : w.heap.size ≤ G4 := by omega
  clear hG2 hG3 hG4
  refine wp_region_v (by kernel_rfl) [[], [(5, 0)], [], [(7, 2)], [(6, 1), (8, 3)], [], [(10, 5)], [], [(12, 7)], [(11, 6), (13, 8)], [(9, 4), (14, 9)], [], [(16, 11)], [], [(18, 13)], [(17, 12), (19, 14)], [(15, 10), (20, 15)]] [[], [0], [], [2], [0, 1, 2, 3], [], [5], [], [7], [0, 1, 2, 3, 4, 5, 6, 7, 8], [0, 1, 2, 3, 4, 5, 6, 7, 8, 9], [], [11], [], [13], [0, 1, 2, 3, 4, 5, 6, 7, 8, 9, 10, 11, 12, 13, 14], [0, 1, 2, 3, 4, 5, 6, 7, 8, 9, 10, 11, 12, 13, 14, 15]]
    [fun v _ => v = .pointer (some ⟨G2, 0, none⟩), fun v _ => v = .agg #[.bool b, .slice A n c], fun v _ => v = .pointer (some ⟨G3, 2, none⟩), fun v _ => v = .agg #[.bool d', .slice E' m' k'], fun v w' => ∃ b A n c, v = .agg #[.bool b, .slice A n c] ∧ IsInt w' (.bool b) (.slice A n c) (p.num * (q.den : Int)), fun v _ => v = .pointer (some ⟨G3, 0, none⟩), fun v _ => v = .agg #[.bool d, .slice E m k], fun v _ => v = .pointer (some ⟨G2, 2, none⟩), fun v _ => v = .agg #[.bool b', .slice A' n' c'], fun v w' => ∃ b A n c, v = .agg #[.bool b, .slice A n c] ∧ IsInt w' (.bool b) (.slice A n c) (q.num * (p.den : Int)), fun v w' => ∃ b A n c, v = .agg #[.bool b, .slice A n c] ∧ IsInt w' (.bool b) (.slice A n c) (p.num * (q.den : Int) + q.num * (p.den : Int)), fun v _ => v = .pointer (some ⟨G2, 2, none⟩), fun v _ => v = .agg #[.bool b', .slice A' n' c'], fun v _ => v = .pointer (some ⟨G3, 2, none⟩), fun v _ => v = .agg #[.bool d', .slice E' m' k'], fun v w' => ∃ b A n c, v = .agg #[.bool b, .slice A n c] ∧ IsInt w' (.bool b) (.slice A n c) ((p.den : Int) * (q.den : Int)), fun v w' => ∃ b A n c b' A' n' c', v = .agg #[.bool b, .slice A n c, .bool b', .slice A' n' c'] ∧ IsRat w' (.bool b) (.slice A n c) (.bool b') (.slice A' n' c') (p + q)]
    rfl (by kernel_rfl) (by kernel_rfl) ?stab ?steps ?fin
  case stab => exact .cons (Stab.eq _) (.cons (Stab.eq _) (.cons (Stab.eq _) (.cons (Stab.eq _) (.cons (fun _ _ _ he ⟨b, A, n, c, h1, h2⟩ => ⟨b, A, n, c, h1, h2.ext he⟩) (.cons (Stab.eq _) (.cons (Stab.eq _) (.cons (Stab.eq _) (.cons (Stab.eq _) (.cons (fun _ _ _ he ⟨b, A, n, c, h1, h2⟩ => ⟨b, A, n, c, h1, h2.ext he⟩) (.cons (fun _ _ _ he ⟨b, A, n, c, h1, h2⟩ => ⟨b, A, n, c, h1, h2.ext he⟩) (.cons (Stab.eq _) (.cons (Stab.eq _) (.cons (Stab.eq _) (.cons (Stab.eq _) (.cons (fun _ _ _ he ⟨b, A, n, c, h1, h2⟩ => ⟨b, A, n, c, h1, h2.ext he⟩) (.cons (fun _ _ _ he ⟨b, A, n, c, b', A', n', c', h1, h2⟩ => ⟨b, A, n, c, b', A', n', c', h1, h2.ext he⟩) .nil))))))))))))))))
  case steps =>
    refine .cons ?s0 (.cons ?s1 (.cons ?s2 (.cons ?s3 (.cons ?s4 (.cons ?s5 (.cons ?s6 (.cons ?s7 (.cons ?s8 (.cons ?s9 (.cons ?s10 (.cons ?s11 (.cons ?s12 (.cons ?s13 (.cons ?s14 (.cons ?s15 (.cons ?s16 .nil))))))))))))))))
    case s0 =>
      intro w' ev hE hk ha hc hf
      have e2 : ev (.tmp 2) = .pointer (some ⟨G2, 0, none⟩) := ha 2 (by decide)
      exact opStep_val (by simp [execOp, e2, go_sem]) rfl
    case s1 =>
      intro w' ev hE hk ha hc hf
      have e5 : ev (.tmp 5) = .pointer (some ⟨G2, 0, none⟩) := hk.1 _ rfl
      have c0 : w'.cell? ⟨G2, 0, none⟩ = some (.bool b) := hE.cellv ((hb2.out.cell 0))
      have c1 : w'.cell? ⟨G2, 1, none⟩ = some (.slice A n c) := hE.cellv ((hb2.out.cell 1))
      exact opStep_val (by simp [execOp, e5, c0, c1, go_sem]) rfl
    case s2 =>
      intro w' ev hE hk ha hc hf
      have e3 : ev (.tmp 3) = .pointer (some ⟨G3, 0, none⟩) := ha 3 (by decide)
      exact opStep_val (by simp [execOp, e3, go_sem]) rfl
    case s3 =>
      intro w' ev hE hk ha hc hf
      have e7 : ev (.tmp 7) = .pointer (some ⟨G3, 2, none⟩) := hk.1 _ rfl
      have c0 : w'.cell? ⟨G3, 2, none⟩ = some (.bool d') := hE.cellv ((hb3.out.cell 2))
      have c1 : w'.cell? ⟨G3, 3, none⟩ = some (.slice E' m' k') := hE.cellv ((hb3.out.cell 3))
      exact opStep_val (by simp [execOp, e7, c0, c1, go_sem]) rfl
    case s4 =>
      intro w' ev hE hk ha hc hf
      have e6 : ev (.tmp 6) = .agg #[.bool b, .slice A n c] := hk.1 _ rfl
      have e8 : ev (.tmp 8) = .agg #[.bool d', .slice E' m' k'] := hk.2.1 _ rfl
      refine opStep_call (by simp [execOp, resolve, invoke, hf, e6, e8, go_sem]) (Rmul_any b d' A E' n c m' k' _ _ _ (hX.out.1.ext ((Ext.refl _).drew.trans hE)) (hY.out.2.ext ((Ext.refl _).drew.trans hE)) (by have := l1.out; omega) (by have := l4.out; omega)) ?_
      rintro e w1 ⟨b1, A1, n1, k1, rfl, hI1, hE1⟩
      exact ⟨_, rfl, hE1, b1, A1, n1, k1, rfl, hI1⟩
    case s5 =>
      intro w' ev hE hk ha hc hf
      have e3 : ev (.tmp 3) = .pointer (some ⟨G3, 0, none⟩) := ha 3 (by decide)
      exact opStep_val (by simp [execOp, e3, go_sem]) rfl
    case s6 =>
      intro w' ev hE hk ha hc hf
      have e10 : ev (.tmp 10) = .pointer (some ⟨G3, 0, none⟩) := hk.1 _ rfl
      have c0 : w'.cell? ⟨G3, 0, none⟩ = some (.bool d) := hE.cellv ((hb3.out.cell 0))
      have c1 : w'.cell? ⟨G3, 1, none⟩ = some (.slice E m k) := hE.cellv ((hb3.out.cell 1))
      exact opStep_val (by simp [execOp, e10, c0, c1, go_sem]) rfl
    case s7 =>
      intro w' ev hE hk ha hc hf
      have e2 : ev (.tmp 2) = .pointer (some ⟨G2, 0, none⟩) := ha 2 (by decide)
      exact opStep_val (by simp [execOp, e2, go_sem]) rfl
    case s8 =>
      intro w' ev hE hk ha hc hf
      have e12 : ev (.tmp 12) = .pointer (some ⟨G2, 2, none⟩) := hk.1 _ rfl
      have c0 : w'.cell? ⟨G2, 2, none⟩ = some (.bool b') := hE.cellv ((hb2.out.cell 2))
      have c1 : w'.cell? ⟨G2, 3, none⟩ = some (.slice A' n' c') := hE.cellv ((hb2.out.cell 3))
      exact opStep_val (by simp [execOp, e12, c0, c1, go_sem]) rfl
    case s9 =>
      intro w' ev hE hk ha hc hf
      have e11 : ev (.tmp 11) = .agg #[.bool d, .slice E m k] := hk.1 _ rfl
      have e13 : ev (.tmp 13) = .agg #[.bool b', .slice A' n' c'] := hk.2.1 _ rfl
      refine opStep_call (by simp [execOp, resolve, invoke, hf, e11, e13, go_sem]) (Rmul_any d b' E A' m k n' c' _ _ _ (hY.out.1.ext ((Ext.refl _).drew.trans hE)) (hX.out.2.ext ((Ext.refl _).drew.trans hE)) (by have := l3.out; omega) (by have := l2.out; omega)) ?_
      rintro e w1 ⟨b1, A1, n1, k1, rfl, hI1, hE1⟩
      exact ⟨_, rfl, hE1, b1, A1, n1, k1, rfl, hI1⟩
    case s10 =>
      intro w' ev hE hk ha hc hf
      have f9 := hk.1 _ rfl
      have f14 := hk.2.1 _ rfl
      obtain ⟨b9', A9', n9', c9', e9, hw9⟩ := f9
      obtain ⟨b14', A14', n14', c14', e14, hw14⟩ := f14
      refine opStep_call (by simp [execOp, resolve, invoke, hf, e9, e14, go_sem]) (Radd_any b9' b14' A9' A14' n9' c9' n14' c14' _ _ _ hw9 hw14 (by have := l5.out; omega) (by have := l6.out; omega)) ?_
      rintro e w1 ⟨b1, A1, n1, k1, rfl, hI1, hE1⟩
      exact ⟨_, rfl, hE1, b1, A1, n1, k1, rfl, hI1⟩
    case s11 =>
      intro w' ev hE hk ha hc hf
      have e2 : ev (.tmp 2) = .pointer (some ⟨G2, 0, none⟩) := ha 2 (by decide)
      exact opStep_val (by simp [execOp, e2, go_sem]) rfl
    case s12 =>
      intro w' ev hE hk ha hc hf
      have e16 : ev (.tmp 16) = .pointer (some ⟨G2, 2, none⟩) := hk.1 _ rfl
      have c0 : w'.cell? ⟨G2, 2, none⟩ = some (.bool b') := hE.cellv ((hb2.out.cell 2))
      have c1 : w'.cell? ⟨G2, 3, none⟩ = some (.slice A' n' c') := hE.cellv ((hb2.out.cell 3))
      exact opStep_val (by simp [execOp, e16, c0, c1, go_sem]) rfl
    case s13 =>
      intro w' ev hE hk ha hc hf
      have e3 : ev (.tmp 3) = .pointer (some ⟨G3, 0, none⟩) := ha 3 (by decide)
      exact opStep_val (by simp [execOp, e3, go_sem]) rfl
    case s14 =>
      intro w' ev hE hk ha hc hf
      have e18 : ev (.tmp 18) = .pointer (some ⟨G3, 2, none⟩) := hk.1 _ rfl
      have c0 : w'.cell? ⟨G3, 2, none⟩ = some (.bool d') := hE.cellv ((hb3.out.cell 2))
      have c1 : w'.cell? ⟨G3, 3, none⟩ = some (.slice E' m' k') := hE.cellv ((hb3.out.cell 3))
      exact opStep_val (by simp [execOp, e18, c0, c1, go_sem]) rfl
    case s15 =>
      intro w' ev hE hk ha hc hf
      have e17 : ev (.tmp 17) = .agg #[.bool b', .slice A' n' c'] := hk.1 _ rfl
      have e19 : ev (.tmp 19) = .agg #[.bool d', .slice E' m' k'] := hk.2.1 _ rfl
      refine opStep_call (by simp [execOp, resolve, invoke, hf, e17, e19, go_sem]) (Rmul_any b' d' A' E' n' c' m' k' _ _ _ (hX.out.2.ext ((Ext.refl _).drew.trans hE)) (hY.out.2.ext ((Ext.refl _).drew.trans hE)) (by have := l2.out; omega) (by have := l4.out; omega)) ?_
      rintro e w1 ⟨b1, A1, n1, k1, rfl, hI1, hE1⟩
      exact ⟨_, rfl, hE1, b1, A1, n1, k1, rfl, hI1⟩
    case s16 =>
      intro w' ev hE hk ha hc hf
      have f15 := hk.1 _ rfl
      have f20 := hk.2.1 _ rfl
      obtain ⟨b15', A15', n15', c15', e15, hw15⟩ := f15
      obtain ⟨b20', A20', n20', c20', e20, hw20⟩ := f20
      refine opStep_call (by simp [execOp, resolve, invoke, hf, e15, e20, go_sem]) (Rlowest_any b15' b20' A15' A20' n15' c15' n20' c20' _ _ _ hw15 hw20 (by have := l7.out; omega) (by have := l8.out; omega) (Int.ne_of_gt (Int.mul_pos (den_pos p) (den_pos q)))) ?_
      rw [← add_parts p q]
      rintro e w1 ⟨b1, b2, A1, A2, n1, k1, n2, k2, rfl, hI1, hE1⟩
      exact ⟨_, rfl, hE1, b1, A1, n1, k1, b2, A2, n2, k2, rfl, hI1⟩
  case fin =>
    intro gf w' hE hF
    obtain ⟨b8, A8, n8, c8', b9, A9, n9, c9, e8, hI8⟩ := hF 16 _ rfl
    replace hE := hide ((Ext.refl _).drew.trans hE)
    have hb4' := hb4.out.ext hE.out
    have z0 : w'.cell? ⟨G4, 0, none⟩ = some (.bool false) := hb4'.cell 0
    have z1 : w'.cell? ⟨G4, 1, none⟩ = some (.slice none 0 0) := hb4'.cell 1
    have z2 : w'.cell? ⟨G4, 2, none⟩ = some (.bool false) := hb4'.cell 2
    have z3 : w'.cell? ⟨G4, 3, none⟩ = some (.slice none 0 0) := hb4'.cell 3
    have y0 := hb4'.frozen 0
    have y1 := hb4'.frozen 1
    have y2 := hb4'.frozen 2
    have y3 := hb4'.frozen 3
    have ht : Ty w' G4 74 := hb4'.ty
    simp only [List.length_cons, List.length_nil, Nat.reduceAdd, List.drop_succ_cons, List.drop_zero, List.take_succ_cons, List.take_zero, putG, Act.put, List.setIfInBounds_toArray, List.set_cons_succ, List.set_cons_zero, e8]
    replace hI8 := hide hI8
    replace hb4' := hide hb4'
    clear hF e8
    go_wp2
    refine bodyPost_ret (v := .agg #[.bool b8, .slice A8 n8 c8', .bool b9, .slice A9 n9 c9]) (by simp [results, Tryz.results95, go_sem, z0, z1, z2, z3]) rfl ⟨_, _, _, _, _, _, _, _, rfl, ?_, ?_⟩
    · exact hI8.out.put4 (b := G4) ht (by decide) (.bool b8) (.slice A8 n8 c8') (.bool b9) (.slice A9 n9 c9)
    · exact (hEw.out.trans hE.out).put4 (b := G4) (by omega) (.bool b8) (.slice A8 n8 c8') (.bool b9) (.slice A9 n9 c9)

set_option maxRecDepth 100000 in
set_option maxHeartbeats 1600000 in
theorem RSub_any (b b' : Bool) (A A' : Option Addr) (n c n' c' : Nat) (d d' : Bool) (E E' : Option Addr) (m k m' k' : Nat) (p q : Rat) (N M : Nat) (w : World) (h : IsRat w (.bool b) (.slice A n c) (.bool b') (.slice A' n' c') p) (h' : IsRat w (.bool d) (.slice E m k) (.bool d') (.slice E' m' k') q) (hp : RSz p N) (hq : RSz q M) (hN : N + M + 1 ≤ 4398046511103) :
    Calls Tryz.prog 70 #[.agg #[.bool b, .slice A n c, .bool b', .slice A' n' c'], .agg #[.bool d, .slice E m k, .bool d', .slice E' m' k']] w (RetRat (p - q) w) := by
  have hb2 : Hid (Blk (((w.alloc (.cells #[.bool b, .slice A n c, .bool b', .slice A' n' c'] 74)).alloc (.cells #[.bool d, .slice E m k, .bool d', .slice E' m' k'] 74)).alloc (.cells #[.bool false, .slice none 0 0, .bool false, .slice none 0 0] 74)) w.heap.size 74 #[.bool b, .slice A n c, .bool b', .slice A' n' c']) := ((Blk.new _ _ _).alloc _).alloc _
  have hb3 : Hid (Blk (((w.alloc (.cells #[.bool b, .slice A n c, .bool b', .slice A' n' c'] 74)).alloc (.cells #[.bool d, .slice E m k, .bool d', .slice E' m' k'] 74)).alloc (.cells #[.bool false, .slice none 0 0, .bool false, .slice none 0 0] 74)) (w.heap.size + 1) 74 #[.bool d, .slice E m k, .bool d', .slice E' m' k']) := (Blk.new' _ _ (by simp)).alloc _
  have hb4 : Hid (Blk (((w.alloc (.cells #[.bool b, .slice A n c, .bool b', .slice A' n' c'] 74)).alloc (.cells #[.bool d, .slice E m k, .bool d', .slice E' m' k'] 74)).alloc (.cells #[.bool false, .slice none 0 0, .bool false, .slice none 0 0] 74)) (w.heap.size + 2) 74 #[.bool false, .slice none 0 0, .bool false, .slice none 0 0]) := Blk.new' _ _ (by simp)
  have hEw : Hid (Ext w (((w.alloc (.cells #[.bool b, .slice A n c, .bool b', .slice A' n' c'] 74)).alloc (.cells #[.bool d, .slice E m k, .bool d', .slice E' m' k'] 74)).alloc (.cells #[.bool false, .slice none 0 0, .bool false, .slice none 0 0] 74))) := (((Ext.refl _).alloc _).alloc _).alloc _
  have hX := hide (h.ext hEw.out)
  have hY := hide (h'.ext hEw.out)
  clear h h'
  replace hp := hide hp
  replace hq := hide hq
  go_enter Tryz.func70, Tryz.ntmps70
  go_upto_region 1 with (fail)
  generalize (((w.alloc (.cells #[.bool b, .slice A n c, .bool b', .slice A' n' c'] 74)).alloc (.cells #[.bool d, .slice E m k, .bool d', .slice E' m' k'] 74)).alloc (.cells #[.bool false, .slice none 0 0, .bool false, .slice none 0 0] 74)) = wq at *
  obtain ⟨G2, hG2⟩ : ∃ G2, G2 = w.heap.size := ⟨_, rfl⟩
  obtain ⟨G3, hG3⟩ : ∃ G3, G3 = w.heap.size + 1 := ⟨_, rfl⟩
  obtain ⟨G4, hG4⟩ : ∃ G4, G4 = w.heap.size + 2 := ⟨_, rfl⟩
  rw [← hG4] at hb4 ⊢
  rw [← hG3] at hb3 ⊢
  rw [← hG2] at hb2 ⊢
  have k4 : w.heap.size ≤ G4 := by omega
  clear hG2 hG3 hG4
  refine wp_region_v (by kernel_rfl) [[], [], [(6, 1)], [(5, 0), (7, 2)]] [[], [], [1], [0, 1, 2]]
    [fun v _ => v = .agg #[.bool b, .slice A n c, .bool b', .slice A' n' c'], fun v _ => v = .agg #[.bool d, .slice E m k, .bool d', .slice E' m' k'], fun v w' => ∃ b A n c b' A' n' c', v = .agg #[.bool b, .slice A n c, .bool b', .slice A' n' c'] ∧ IsRat w' (.bool b) (.slice A n c) (.bool b') (.slice A' n' c') (-q), fun v w' => ∃ b A n c b' A' n' c', v = .agg #[.bool b, .slice A n c, .bool b', .slice A' n' c'] ∧ IsRat w' (.bool b) (.slice A n c) (.bool b') (.slice A' n' c') (p - q)]
    rfl (by kernel_rfl) (by kernel_rfl) ?stab ?steps ?fin
  case stab => exact .cons (Stab.eq _) (.cons (Stab.eq _) (.cons (fun _ _ _ he ⟨b, A, n, c, b', A', n', c', h1, h2⟩ => ⟨b, A, n, c, b', A', n', c', h1, h2.ext he⟩) (.cons (fun _ _ _ he ⟨b, A, n, c, b', A', n', c', h1, h2⟩ => ⟨b, A, n, c, b', A', n', c', h1, h2.ext he⟩) .nil)))
  case steps =>
    refine .cons ?s0 (.cons ?s1 (.cons ?s2 (.cons ?s3 .nil)))
    case s0 =>
      intro w' ev hE hk ha hc hf
      have e2 : ev (.tmp 2) = .pointer (some ⟨G2, 0, none⟩) := ha 2 (by decide)
      have c0 : w'.cell? ⟨G2, 0, none⟩ = some (.bool b) := hE.cellv ((hb2.out.cell 0))
      have c1 : w'.cell? ⟨G2, 1, none⟩ = some (.slice A n c) := hE.cellv ((hb2.out.cell 1))
      have c2 : w'.cell? ⟨G2, 2, none⟩ = some (.bool b') := hE.cellv ((hb2.out.cell 2))
      have c3 : w'.cell? ⟨G2, 3, none⟩ = some (.slice A' n' c') := hE.cellv ((hb2.out.cell 3))
      exact opStep_val (by simp [execOp, e2, c0, c1, c2, c3, go_sem]) rfl
    case s1 =>
      intro w' ev hE hk ha hc hf
      have e3 : ev (.tmp 3) = .pointer (some ⟨G3, 0, none⟩) := ha 3 (by decide)
      have c0 : w'.cell? ⟨G3, 0, none⟩ = some (.bool d) := hE.cellv ((hb3.out.cell 0))
      have c1 : w'.cell? ⟨G3, 1, none⟩ = some (.slice E m k) := hE.cellv ((hb3.out.cell 1))
      have c2 : w'.cell? ⟨G3, 2, none⟩ = some (.bool d') := hE.cellv ((hb3.out.cell 2))
      have c3 : w'.cell? ⟨G3, 3, none⟩ = some (.slice E' m' k') := hE.cellv ((hb3.out.cell 3))
      exact opStep_val (by simp [execOp, e3, c0, c1, c2, c3, go_sem]) rfl
    case s2 =>
      intro w' ev hE hk ha hc hf
      have e6 : ev (.tmp 6) = .agg #[.bool d, .slice E m k, .bool d', .slice E' m' k'] := hk.1 _ rfl
      refine opStep_call (by simp [execOp, resolve, invoke, hf, e6, go_sem]) (RNeg_any d d' E E' m k m' k' q _ (hY.out.ext ((Ext.refl _).drew.trans hE))) ?_
      rintro e w1 ⟨b1, b2, A1, A2, n1, k1, n2, k2, rfl, hI1, hE1⟩
      exact ⟨_, rfl, hE1, b1, A1, n1, k1, b2, A2, n2, k2, rfl, hI1⟩
    case s3 =>
      intro w' ev hE hk ha hc hf
      have e5 : ev (.tmp 5) = .agg #[.bool b, .slice A n c, .bool b', .slice A' n' c'] := hk.1 _ rfl
      have f7 := hk.2.1 _ rfl
      obtain ⟨b7', A7', n7', c7', d7', E7', m7', k7', e7, hw7⟩ := f7
      refine opStep_call (by simp [execOp, resolve, invoke, hf, e5, e7, go_sem]) (RAdd_any b b' A A' n c n' c' b7' d7' A7' E7' n7' c7' m7' k7' p (-q) N M _ (hX.out.ext ((Ext.refl _).drew.trans hE)) hw7 hp.out hq.out.neg hN) ?_
      rw [← Rat.sub_eq_add_neg]
      rintro e w1 ⟨b1, b2, A1, A2, n1, k1, n2, k2, rfl, hI1, hE1⟩
      exact ⟨_, rfl, hE1, b1, A1, n1, k1, b2, A2, n2, k2, rfl, hI1⟩
  case fin =>
    intro gf w' hE hF
    obtain ⟨b8, A8, n8, c8', b9, A9, n9, c9, e8, hI8⟩ := hF 3 _ rfl
    replace hE := hide ((Ext.refl _).drew.trans hE)
    have hb4' := hb4.out.ext hE.out
    have z0 : w'.cell? ⟨G4, 0, none⟩ = some (.bool false) := hb4'.cell 0
    have z1 : w'.cell? ⟨G4, 1, none⟩ = some (.slice none 0 0) := hb4'.cell 1
    have z2 : w'.cell? ⟨G4, 2, none⟩ = some (.bool false) := hb4'.cell 2
    have z3 : w'.cell? ⟨G4, 3, none⟩ = some (.slice none 0 0) := hb4'.cell 3
    have y0 := hb4'.frozen 0
    have y1 := hb4'.frozen 1
    have y2 := hb4'.frozen 2
    have y3 := hb4'.frozen 3
    have ht : Ty w' G4 74 := hb4'.ty
    simp only [List.length_cons, List.length_nil, Nat.reduceAdd, List.drop_succ_cons, List.drop_zero, List.take_succ_cons, List.take_zero, putG, Act.put, List.setIfInBounds_toArray, List.set_cons_succ, List.set_cons_zero, e8]
    replace hI8 := hide hI8
    replace hb4' := hide hb4'
    clear hF e8
    go_wp2
    refine bodyPost_ret (v := .agg #[.bool b8, .slice A8 n8 c8', .bool b9, .slice A9 n9 c9]) (by simp [results, Tryz.results70, go_sem, z0, z1, z2, z3]) rfl ⟨_, _, _, _, _, _, _, _, rfl, ?_, ?_⟩
    · exact hI8.out.put4 (b := G4) ht (by decide) (.bool b8) (.slice A8 n8 c8') (.bool b9) (.slice A9 n9 c9)
    · exact (hEw.out.trans hE.out).put4 (b := G4) (by omega) (.bool b8) (.slice A8 n8 c8') (.bool b9) (.slice A9 n9 c9)

set_option maxRecDepth 100000 in
set_option maxHeartbeats 1600000 in
theorem RNew_any (b b' : Bool) (A A' : Option Addr) (n c n' c' : Nat) (x y : Int) (w : World) (h : IsInt w (.bool b) (.slice A n c) x) (h' : IsInt w (.bool b') (.slice A' n' c') y) (hn : (digs x.natAbs).length ≤ 4398046511103) (hn' : (digs y.natAbs).length ≤ 4398046511103) (hy : y ≠ 0) :
    Calls Tryz.prog 72 #[.agg #[.bool b, .slice A n c], .agg #[.bool b', .slice A' n' c']] w (RetRatOk (Rat.divInt x y) w) := by
  have hb2 : Hid (Blk (((w.alloc (.cells #[.bool b, .slice A n c] 72)).alloc (.cells #[.bool b', .slice A' n' c'] 72)).alloc (.cells #[.bool false, .slice none 0 0, .bool false, .slice none 0 0] 74)) w.heap.size 72 #[.bool b, .slice A n c]) := ((Blk.new _ _ _).alloc _).alloc _
  have hb3 : Hid (Blk (((w.alloc (.cells #[.bool b, .slice A n c] 72)).alloc (.cells #[.bool b', .slice A' n' c'] 72)).alloc (.cells #[.bool false, .slice none 0 0, .bool false, .slice none 0 0] 74)) (w.heap.size + 1) 72 #[.bool b', .slice A' n' c']) := (Blk.new' _ _ (by simp)).alloc _
  have hb4 : Hid (Blk (((w.alloc (.cells #[.bool b, .slice A n c] 72)).alloc (.cells #[.bool b', .slice A' n' c'] 72)).alloc (.cells #[.bool false, .slice none 0 0, .bool false, .slice none 0 0] 74)) (w.heap.size + 2) 74 #[.bool false, .slice none 0 0, .bool false, .slice none 0 0]) := Blk.new' _ _ (by simp)
  have hEw : Hid (Ext w (((w.alloc (.cells #[.bool b, .slice A n c] 72)).alloc (.cells #[.bool b', .slice A' n' c'] 72)).alloc (.cells #[.bool false, .slice none 0 0, .bool false, .slice none 0 0] 74))) := (((Ext.refl _).alloc _).alloc _).alloc _
  have hX := hide (h.ext hEw.out)
  have hY := hide (h'.ext hEw.out)
  clear h h'
  replace hn := hide hn
  replace hn' := hide hn'
  have hs : y.sign ≠ 0 := by rw [Ne, Int.sign_eq_zero_iff_zero]; exact hy
  have hsb : (y.sign == 0) = false := by simpa using hs
  clear hs
  replace hy := hide hy
  go_enter Tryz.func72, Tryz.ntmps72
  go_wp2_with fail
  generalize (((w.alloc (.cells #[.bool b, .slice A n c] 72)).alloc (.cells #[.bool b', .slice A' n' c'] 72)).alloc (.cells #[.bool false, .slice none 0 0, .bool false, .slice none 0 0] 74)) = wq at *
  refine (Rsign_any b' A' n' c' y _ hY.out).mono ?_
  rintro e w1 ⟨rfl, hE1⟩
  generalize y.sign = s at *
  replace hb2 := hide (hb2.out.ext hE1)
  replace hb3 := hide (hb3.out.ext hE1)
  replace hb4 := hide (hb4.out.ext hE1)
  replace hX := hide (hX.out.ext hE1)
  replace hY := hide (hY.out.ext hE1)
  replace hEw := hide (hEw.out.trans hE1)
  clear hE1
  have q0 : w1.cell? ⟨w.heap.size, 0, none⟩ = some (.bool b) := hb2.out.cell 0
  have q1 : w1.cell? ⟨w.heap.size, 1, none⟩ = some (.slice A n c) := hb2.out.cell 1
  have r0 : w1.cell? ⟨w.heap.size + 1, 0, none⟩ = some (.bool b') := hb3.out.cell 0
  have r1 : w1.cell? ⟨w.heap.size + 1, 1, none⟩ = some (.slice A' n' c') := hb3.out.cell 1
  go_wp2_with fail
  refine (Rlowest_any b b' A A' n c n' c' x y _ hX.out hY.out hn.out hn'.out hy.out).mono ?_
  rintro e w2 ⟨b8, b9, A8, A9, n8, c8', n9, c9, rfl, hI8, hE1⟩
  replace hb4 := hide (hb4.out.ext hE1)
  replace hEw := hide (hEw.out.trans hE1)
  replace hI8 := hide hI8
  clear hE1 q0 q1 r0 r1
  have z0 : w2.cell? ⟨w.heap.size + 2, 0, none⟩ = some (.bool false) := hb4.out.cell 0
  have z1 : w2.cell? ⟨w.heap.size + 2, 1, none⟩ = some (.slice none 0 0) := hb4.out.cell 1
  have z2 : w2.cell? ⟨w.heap.size + 2, 2, none⟩ = some (.bool false) := hb4.out.cell 2
  have z3 : w2.cell? ⟨w.heap.size + 2, 3, none⟩ = some (.slice none 0 0) := hb4.out.cell 3
  have y0 := hb4.out.frozen 0
  have y1 := hb4.out.frozen 1
  have y2 := hb4.out.frozen 2
  have y3 := hb4.out.frozen 3
  have ht : Ty w2 (w.heap.size + 2) 74 := hb4.out.ty
  go_wp2
  refine bodyPost_ret (v := .tuple #[.agg #[.bool b8, .slice A8 n8 c8', .bool b9, .slice A9 n9 c9], .int .i64 0]) (by simp [results, Tryz.results72, go_sem, z0, z1, z2, z3]) rfl ⟨_, _, _, _, _, _, _, _, rfl, ?_, ?_⟩
  · exact hI8.out.put4 (b := w.heap.size + 2) ht (by decide) (.bool b8) (.slice A8 n8 c8') (.bool b9) (.slice A9 n9 c9)
  · exact hEw.out.put4 (b := w.heap.size + 2) (by omega) (.bool b8) (.slice A8 n8 c8') (.bool b9) (.slice A9 n9 c9)

set_option maxRecDepth 100000 in
set_option maxHeartbeats 1600000 in
theorem RInv_any (b b' : Bool) (A A' : Option Addr) (n c n' c' : Nat) (p : Rat) (w : World) (h : IsRat w (.bool b) (.slice A n c) (.bool b') (.slice A' n' c') p) (hn : (digs p.num.natAbs).length ≤ 4398046511103) (hd : (digs (p.den : Int).natAbs).length ≤ 4398046511103) (h0 : p.num ≠ 0) :
    Calls Tryz.prog 57 #[.agg #[.bool b, .slice A n c, .bool b', .slice A' n' c']] w (RetRatOk p⁻¹ w) := by
  have hb2 : Hid (Blk ((w.alloc (.cells #[.bool b, .slice A n c, .bool b', .slice A' n' c'] 74)).alloc (.cells #[.bool false, .slice none 0 0, .bool false, .slice none 0 0] 74)) w.heap.size 74 #[.bool b, .slice A n c, .bool b', .slice A' n' c']) := (Blk.new _ _ _).alloc _
  have hb4 : Hid (Blk ((w.alloc (.cells #[.bool b, .slice A n c, .bool b', .slice A' n' c'] 74)).alloc (.cells #[.bool false, .slice none 0 0, .bool false, .slice none 0 0] 74)) (w.heap.size + 1) 74 #[.bool false, .slice none 0 0, .bool false, .slice none 0 0]) := Blk.new' _ _ (by simp)
  have hEw : Hid (Ext w ((w.alloc (.cells #[.bool b, .slice A n c, .bool b', .slice A' n' c'] 74)).alloc (.cells #[.bool false, .slice none 0 0, .bool false, .slice none 0 0] 74))) := ((Ext.refl _).alloc _).alloc _
  have hX := hide (h.ext hEw.out)
  clear h
  replace hn := hide hn
  replace hd := hide hd
  replace h0 := hide h0
  go_enter Tryz.func57, Tryz.ntmps57
  go_wp2_with fail
  generalize ((w.alloc (.cells #[.bool b, .slice A n c, .bool b', .slice A' n' c'] 74)).alloc (.cells #[.bool false, .slice none 0 0, .bool false, .slice none 0 0] 74)) = wq at *
  refine (RNew_any b' b A' A n' c' n c (p.den : Int) p.num _ hX.out.2 hX.out.1 hd.out hn.out h0.out).mono ?_
  rw [← inv_divInt p]
  rintro e w2 ⟨b8, b9, A8, A9, n8, c8', n9, c9, rfl, hI8, hE1⟩
  replace hb4 := hide (hb4.out.ext hE1)
  replace hEw := hide (hEw.out.trans hE1)
  replace hI8 := hide hI8
  clear hE1
  have z0 : w2.cell? ⟨w.heap.size + 1, 0, none⟩ = some (.bool false) := hb4.out.cell 0
  have z1 : w2.cell? ⟨w.heap.size + 1, 1, none⟩ = some (.slice none 0 0) := hb4.out.cell 1
  have z2 : w2.cell? ⟨w.heap.size + 1, 2, none⟩ = some (.bool false) := hb4.out.cell 2
  have z3 : w2.cell? ⟨w.heap.size + 1, 3, none⟩ = some (.slice none 0 0) := hb4.out.cell 3
  have y0 := hb4.out.frozen 0
  have y1 := hb4.out.frozen 1
  have y2 := hb4.out.frozen 2
  have y3 := hb4.out.frozen 3
  have ht : Ty w2 (w.heap.size + 1) 74 := hb4.out.ty
  go_wp2
  refine bodyPost_ret (v := .tuple #[.agg #[.bool b8, .slice A8 n8 c8', .bool b9, .slice A9 n9 c9], .int .i64 0]) (by simp [results, Tryz.results57, go_sem, z0, z1, z2, z3]) rfl ⟨_, _, _, _, _, _, _, _, rfl, ?_, ?_⟩
  · exact hI8.out.put4 (b := w.heap.size + 1) ht (by decide) (.bool b8) (.slice A8 n8 c8') (.bool b9) (.slice A9 n9 c9)
  · exact hEw.out.put4 (b := w.heap.size + 1) (by omega) (.bool b8) (.slice A8 n8 c8') (.bool b9) (.slice A9 n9 c9)

end Go.Proofs.YteefhmdameeoaaaGreat
