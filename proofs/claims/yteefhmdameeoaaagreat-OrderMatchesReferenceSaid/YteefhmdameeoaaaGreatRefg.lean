/-
  Contracts of the reference's integers: Mul, Add, DivMod, Neg, Sign, Of, common, Gcd.
-/
import Derived.Test.YteefhmdameeoaaaGreatRefe
import Derived.Test.YteefhmdameeoaaaGreatP3
set_option linter.unusedSimpArgs false
set_option linter.unusedVariables false
namespace Go.Proofs.YteefhmdameeoaaaGreat
open Go.RowKit

set_option maxRecDepth 100000 in
set_option maxHeartbeats 800000 in
theorem Rmul_any (b b' : Bool) (A A' : Option Addr) (n c n' c' : Nat) (x y : Int) (w : World) (h : IsInt w (.bool b) (.slice A n c) x) (h' : IsInt w (.bool b') (.slice A' n' c') y) (hn : (digs x.natAbs).length ≤ 4398046511104) (hn' : (digs y.natAbs).length ≤ 4398046511104) :
    Calls Tryz.prog 74 #[.agg #[.bool b, .slice A n c], .agg #[.bool b', .slice A' n' c']] w (RetInt (x * y) w) := by
  replace h := hide h
  replace h' := hide h'
  replace hn := hide hn
  replace hn' := hide hn'
  go_enter Tryz.func74, Tryz.ntmps74
  go_wp2
  refine wp_region_v (by kernel_rfl) [[], [(5, 0)], [], [(7, 2)], [(6, 1), (8, 3)], [], [(10, 5)], [], [(12, 7)], [(11, 6), (13, 8)], [(9, 4), (14, 9)]] [[], [0], [], [2], [0, 1, 2, 3], [], [5], [], [7], [5, 6, 7, 8], [0, 1, 2, 3, 4, 5, 6, 7, 8, 9]]
    [fun v _ => v = .pointer (some ⟨w.heap.size, 0, none⟩), fun v _ => v = .bool b, fun v _ => v = .pointer (some ⟨w.heap.size + 1, 0, none⟩), fun v _ => v = .bool b', fun v _ => v = .bool (!(b == b')), fun v _ => v = .pointer (some ⟨w.heap.size, 1, none⟩), fun v _ => v = .slice A n c, fun v _ => v = .pointer (some ⟨w.heap.size + 1, 1, none⟩), fun v _ => v = .slice A' n' c', fun v w' => Words w' v (digs (val (digs x.natAbs) * val (digs y.natAbs))), fun v w' => ∃ b A n c, v = .agg #[.bool b, .slice A n c] ∧ IsInt w' (.bool b) (.slice A n c) (x * y)]
    rfl (by kernel_rfl) (by kernel_rfl) ?stab ?steps ?fin
  case stab => exact .cons (Stab.eq _) (.cons (Stab.eq _) (.cons (Stab.eq _) (.cons (Stab.eq _) (.cons (Stab.eq _) (.cons (Stab.eq _) (.cons (Stab.eq _) (.cons (Stab.eq _) (.cons (Stab.eq _) (.cons (fun _ _ _ he h => h.ext he) (.cons (fun _ _ _ he ⟨b, A, n, c, h1, h2⟩ => ⟨b, A, n, c, h1, h2.ext he⟩) .nil))))))))))
  case steps =>
    refine .cons ?s0 (.cons ?s1 (.cons ?s2 (.cons ?s3 (.cons ?s4 (.cons ?s5 (.cons ?s6 (.cons ?s7 (.cons ?s8 (.cons ?s9 (.cons ?s10 .nil))))))))))
    case s0 =>
      intro w' ev hE hk ha hc hf
      have e2 : ev (.tmp 2) = .pointer (some ⟨w.heap.size, 0, none⟩) := ha 2 (by decide)
      exact opStep_val (by simp [execOp, e2, go_sem]) rfl
    case s1 =>
      intro w' ev hE hk ha hc hf
      have e5 : ev (.tmp 5) = .pointer (some ⟨w.heap.size, 0, none⟩) := hk.1 _ rfl
      have c0 : w'.cell? ⟨w.heap.size, 0, none⟩ = some (.bool b) := hE.cellv (((((Blk.new _ _ _).alloc _).alloc _).drew.cell 0))
      exact opStep_val (by simp [execOp, e5, c0, go_sem]) rfl
    case s2 =>
      intro w' ev hE hk ha hc hf
      have e3 : ev (.tmp 3) = .pointer (some ⟨w.heap.size + 1, 0, none⟩) := ha 3 (by decide)
      exact opStep_val (by simp [execOp, e3, go_sem]) rfl
    case s3 =>
      intro w' ev hE hk ha hc hf
      have e7 : ev (.tmp 7) = .pointer (some ⟨w.heap.size + 1, 0, none⟩) := hk.1 _ rfl
      have c0 : w'.cell? ⟨w.heap.size + 1, 0, none⟩ = some (.bool b') := hE.cellv ((((Blk.new' _ _ (by simp)).alloc _).drew.cell 0))
      exact opStep_val (by simp [execOp, e7, c0, go_sem]) rfl
    case s4 =>
      intro w' ev hE hk ha hc hf
      have e6 : ev (.tmp 6) = .bool b := hk.1 _ rfl
      have e8 : ev (.tmp 8) = .bool b' := hk.2.1 _ rfl
      exact opStep_val (by simp [execOp, e6, e8, go_sem]) rfl
    case s5 =>
      intro w' ev hE hk ha hc hf
      have e2 : ev (.tmp 2) = .pointer (some ⟨w.heap.size, 0, none⟩) := ha 2 (by decide)
      exact opStep_val (by simp [execOp, e2, go_sem]) rfl
    case s6 =>
      intro w' ev hE hk ha hc hf
      have e10 : ev (.tmp 10) = .pointer (some ⟨w.heap.size, 1, none⟩) := hk.1 _ rfl
      have c0 : w'.cell? ⟨w.heap.size, 1, none⟩ = some (.slice A n c) := hE.cellv (((((Blk.new _ _ _).alloc _).alloc _).drew.cell 1))
      exact opStep_val (by simp [execOp, e10, c0, go_sem]) rfl
    case s7 =>
      intro w' ev hE hk ha hc hf
      have e3 : ev (.tmp 3) = .pointer (some ⟨w.heap.size + 1, 0, none⟩) := ha 3 (by decide)
      exact opStep_val (by simp [execOp, e3, go_sem]) rfl
    case s8 =>
      intro w' ev hE hk ha hc hf
      have e12 : ev (.tmp 12) = .pointer (some ⟨w.heap.size + 1, 1, none⟩) := hk.1 _ rfl
      have c0 : w'.cell? ⟨w.heap.size + 1, 1, none⟩ = some (.slice A' n' c') := hE.cellv ((((Blk.new' _ _ (by simp)).alloc _).drew.cell 1))
      exact opStep_val (by simp [execOp, e12, c0, go_sem]) rfl
    case s9 =>
      intro w' ev hE hk ha hc hf
      have e11 : ev (.tmp 11) = .slice A n c := hk.1 _ rfl
      have e13 : ev (.tmp 13) = .slice A' n' c' := hk.2.1 _ rfl
      refine opStep_call (by simp [execOp, resolve, invoke, hf, e11, e13, go_sem]) (Rtimes_any _ _ _ _ _ (h.out.2.ext (((((Ext.refl _).alloc _).alloc _).alloc _).drew.trans hE)) (h'.out.2.ext (((((Ext.refl _).alloc _).alloc _).alloc _).drew.trans hE)) hn.out hn'.out) ?_
      rintro e w1 ⟨v1, rfl, hW1, hE1⟩
      exact ⟨v1, rfl, hE1, hW1⟩
    case s10 =>
      intro w' ev hE hk ha hc hf
      have e9 : ev (.tmp 9) = .bool (!(b == b')) := hk.1 _ rfl
      have f14 := hk.2.1 _ rfl
      refine opStep_call (by simp [execOp, resolve, invoke, hf, e9, go_sem]) (Rmade_any (!(b == b')) _ _ _ f14) ?_
      rintro e w1 ⟨b1, A1, n1, k1, rfl, hI1, hE1⟩
      exact ⟨_, rfl, hE1, b1, A1, n1, k1, rfl, by rw [val_digs, val_digs, val_digs, h.out.bool_eq, h'.out.bool_eq, sgn_mul] at hI1; exact hI1⟩
  case fin =>
    intro g w' hE hF
    obtain ⟨b2, A2, n2, k2, e2, hI2⟩ := hF 10 _ rfl
    simp only [List.length_cons, List.length_nil, Nat.reduceAdd, List.drop_succ_cons, List.drop_zero, List.take_succ_cons, List.take_zero, putG, Act.put, List.setIfInBounds_toArray, List.set_cons_succ, List.set_cons_zero, e2]
    clear hF e2
    replace hI2 := hide hI2
    obtain ⟨hcell, hfr⟩ := hE.cells
    replace hE := hide hE
    go_wp2
    refine bodyPost_ret (v := .agg #[.bool b2, .slice A2 n2 k2]) (by simp [results, Tryz.results74, go_sem, hcell]) rfl ⟨_, _, _, _, rfl, ?_, ?_⟩
    · have ht : Ty w' (w.heap.size + 2) 72 := (Ty.new' _ _ (by simp)).drew.ext hE.out
      exact (hI2.out.set ht (by decide) _).set (ht.set _ _) (by decide) _
    · exact ((((((Ext.refl _).alloc _).alloc _).alloc _).drew.trans hE.out).set (by simp <;> omega) _).set (by simp <;> omega) _

set_option maxRecDepth 100000 in
set_option maxHeartbeats 800000 in
theorem Radd_same (b b' : Bool) (A A' : Option Addr) (n c n' c' : Nat) (x y : Int) (w : World) (h : IsInt w (.bool b) (.slice A n c) x) (h' : IsInt w (.bool b') (.slice A' n' c') y) (hn : (digs x.natAbs).length ≤ 4398046511104) (hn' : (digs y.natAbs).length ≤ 4398046511104) (hb : b = b') :
    Calls Tryz.prog 115 #[.agg #[.bool b, .slice A n c], .agg #[.bool b', .slice A' n' c']] w (RetInt (x + y) w) := by
  have hd := hide h.bool_eq
  have hd' := hide h'.bool_eq
  replace h := hide h
  replace h' := hide h'
  replace hn := hide hn
  replace hn' := hide hn'
  have hbb : (b == b') = true := by simpa using hb
  replace hb := hide hb
  go_enter Tryz.func115, Tryz.ntmps115
  go_wp2
  refine wp_region_v (by kernel_rfl) [[], [(10, 0)], [], [(12, 2)], [], [(14, 4)], [(13, 3), (15, 5)], [(11, 1), (16, 6)]] [[], [0], [], [2], [], [4], [2, 3, 4, 5], [0, 1, 2, 3, 4, 5, 6]]
    [fun v _ => v = .pointer (some ⟨w.heap.size, 0, none⟩), fun v _ => v = .bool b, fun v _ => v = .pointer (some ⟨w.heap.size, 1, none⟩), fun v _ => v = .slice A n c, fun v _ => v = .pointer (some ⟨w.heap.size + 1, 1, none⟩), fun v _ => v = .slice A' n' c', fun v w' => Words w' v (digs (val (digs x.natAbs) + val (digs y.natAbs))), fun v w' => ∃ b A n c, v = .agg #[.bool b, .slice A n c] ∧ IsInt w' (.bool b) (.slice A n c) (x + y)]
    rfl (by kernel_rfl) (by kernel_rfl) ?stab ?steps ?fin
  case stab => exact .cons (Stab.eq _) (.cons (Stab.eq _) (.cons (Stab.eq _) (.cons (Stab.eq _) (.cons (Stab.eq _) (.cons (Stab.eq _) (.cons (fun _ _ _ he h => h.ext he) (.cons (fun _ _ _ he ⟨b, A, n, c, h1, h2⟩ => ⟨b, A, n, c, h1, h2.ext he⟩) .nil)))))))
  case steps =>
    refine .cons ?s0 (.cons ?s1 (.cons ?s2 (.cons ?s3 (.cons ?s4 (.cons ?s5 (.cons ?s6 (.cons ?s7 .nil)))))))
    case s0 =>
      intro w' ev hE hk ha hc hf
      have e2 : ev (.tmp 2) = .pointer (some ⟨w.heap.size, 0, none⟩) := ha 2 (by decide)
      exact opStep_val (by simp [execOp, e2, go_sem]) rfl
    case s1 =>
      intro w' ev hE hk ha hc hf
      have e10 : ev (.tmp 10) = .pointer (some ⟨w.heap.size, 0, none⟩) := hk.1 _ rfl
      have c0 : w'.cell? ⟨w.heap.size, 0, none⟩ = some (.bool b) := hE.cellv (((((Blk.new _ _ _).alloc _).alloc _).drew.cell 0))
      exact opStep_val (by simp [execOp, e10, c0, go_sem]) rfl
    case s2 =>
      intro w' ev hE hk ha hc hf
      have e2 : ev (.tmp 2) = .pointer (some ⟨w.heap.size, 0, none⟩) := ha 2 (by decide)
      exact opStep_val (by simp [execOp, e2, go_sem]) rfl
    case s3 =>
      intro w' ev hE hk ha hc hf
      have e12 : ev (.tmp 12) = .pointer (some ⟨w.heap.size, 1, none⟩) := hk.1 _ rfl
      have c0 : w'.cell? ⟨w.heap.size, 1, none⟩ = some (.slice A n c) := hE.cellv (((((Blk.new _ _ _).alloc _).alloc _).drew.cell 1))
      exact opStep_val (by simp [execOp, e12, c0, go_sem]) rfl
    case s4 =>
      intro w' ev hE hk ha hc hf
      have e3 : ev (.tmp 3) = .pointer (some ⟨w.heap.size + 1, 0, none⟩) := ha 3 (by decide)
      exact opStep_val (by simp [execOp, e3, go_sem]) rfl
    case s5 =>
      intro w' ev hE hk ha hc hf
      have e14 : ev (.tmp 14) = .pointer (some ⟨w.heap.size + 1, 1, none⟩) := hk.1 _ rfl
      have c0 : w'.cell? ⟨w.heap.size + 1, 1, none⟩ = some (.slice A' n' c') := hE.cellv ((((Blk.new' _ _ (by simp)).alloc _).drew.cell 1))
      exact opStep_val (by simp [execOp, e14, c0, go_sem]) rfl
    case s6 =>
      intro w' ev hE hk ha hc hf
      have e13 : ev (.tmp 13) = .slice A n c := hk.1 _ rfl
      have e15 : ev (.tmp 15) = .slice A' n' c' := hk.2.1 _ rfl
      refine opStep_call (by simp [execOp, resolve, invoke, hf, e13, e15, go_sem]) (Radded_any _ _ _ _ _ (h.out.2.ext (((((Ext.refl _).alloc _).alloc _).alloc _).drew.trans hE)) (h'.out.2.ext (((((Ext.refl _).alloc _).alloc _).alloc _).drew.trans hE)) hn.out hn'.out) ?_
      rintro e w1 ⟨v1, rfl, hW1, hE1⟩
      exact ⟨v1, rfl, hE1, hW1⟩
    case s7 =>
      intro w' ev hE hk ha hc hf
      have e11 : ev (.tmp 11) = .bool b := hk.1 _ rfl
      have f16 := hk.2.1 _ rfl
      refine opStep_call (by simp [execOp, resolve, invoke, hf, e11, go_sem]) (Rmade_any b _ _ _ f16) ?_
      rintro e w1 ⟨b1, A1, n1, k1, rfl, hI1, hE1⟩
      exact ⟨_, rfl, hE1, b1, A1, n1, k1, rfl, by have hb := hb.out; rw [hd.out, hd'.out] at hb; rw [val_digs, val_digs, val_digs, hd.out, sgn_add_same hb] at hI1; exact hI1⟩
  case fin =>
    intro g w' hE hF
    obtain ⟨b2, A2, n2, k2, e2, hI2⟩ := hF 7 _ rfl
    simp only [List.length_cons, List.length_nil, Nat.reduceAdd, List.drop_succ_cons, List.drop_zero, List.take_succ_cons, List.take_zero, putG, Act.put, List.setIfInBounds_toArray, List.set_cons_succ, List.set_cons_zero, e2]
    clear hF e2
    replace hI2 := hide hI2
    obtain ⟨hcell, hfr⟩ := hE.cells
    replace hE := hide hE
    go_wp2
    refine bodyPost_ret (v := .agg #[.bool b2, .slice A2 n2 k2]) (by simp [results, Tryz.results115, go_sem, hcell]) rfl ⟨_, _, _, _, rfl, ?_, ?_⟩
    · have ht : Ty w' (w.heap.size + 2) 72 := (Ty.new' _ _ (by simp)).drew.ext hE.out
      exact (hI2.out.set ht (by decide) _).set (ht.set _ _) (by decide) _
    · exact ((((((Ext.refl _).alloc _).alloc _).alloc _).drew.trans hE.out).set (by simp <;> omega) _).set (by simp <;> omega) _

set_option maxRecDepth 100000 in
set_option maxHeartbeats 800000 in
theorem Radd_ge (b b' : Bool) (A A' : Option Addr) (n c n' c' : Nat) (x y : Int) (w : World) (h : IsInt w (.bool b) (.slice A n c) x) (h' : IsInt w (.bool b') (.slice A' n' c') y) (hn : (digs x.natAbs).length ≤ 4398046511104) (hn' : (digs y.natAbs).length ≤ 4398046511104) (hb : ¬ b = b') (hle : y.natAbs ≤ x.natAbs) :
    Calls Tryz.prog 115 #[.agg #[.bool b, .slice A n c], .agg #[.bool b', .slice A' n' c']] w (RetInt (x + y) w) := by
  have hd := hide h.bool_eq
  have hd' := hide h'.bool_eq
  replace h := hide h
  replace h' := hide h'
  replace hn := hide hn
  replace hn' := hide hn'
  have hbb : (b == b') = false := by simpa using hb
  replace hb := hide hb
  have hcmp : ¬ cmpN x.natAbs y.natAbs < 0 := by
    unfold cmpN
    rw [if_neg (by omega)]; split <;> omega
  replace hle := hide hle
  go_enter Tryz.func115, Tryz.ntmps115
  go_wp2_with (go_at_call 125; refine (Rcompared_any _ _ _ _ _ (h.out.2.ext ((((Ext.refl _).alloc _).alloc _).alloc _)) (h'.out.2.ext ((((Ext.refl _).alloc _).alloc _).alloc _))).mono ?_; rintro e w1 ⟨rfl, hE0⟩; replace hE0 := hide hE0; obtain ⟨hc0, hf0⟩ := hE0.out.cells)
  refine wp_region_v (by kernel_rfl) [[], [(32, 0)], [], [(34, 2)], [], [(36, 4)], [(35, 3), (37, 5)], [(33, 1), (38, 6)]] [[], [0], [], [2], [], [4], [2, 3, 4, 5], [0, 1, 2, 3, 4, 5, 6]]
    [fun v _ => v = .pointer (some ⟨w.heap.size, 0, none⟩), fun v _ => v = .bool b, fun v _ => v = .pointer (some ⟨w.heap.size, 1, none⟩), fun v _ => v = .slice A n c, fun v _ => v = .pointer (some ⟨w.heap.size + 1, 1, none⟩), fun v _ => v = .slice A' n' c', fun v w' => Words w' v (digs (val (digs x.natAbs) - val (digs y.natAbs))), fun v w' => ∃ b A n c, v = .agg #[.bool b, .slice A n c] ∧ IsInt w' (.bool b) (.slice A n c) (x + y)]
    rfl (by kernel_rfl) (by kernel_rfl) ?stab ?steps ?fin
  case stab => exact .cons (Stab.eq _) (.cons (Stab.eq _) (.cons (Stab.eq _) (.cons (Stab.eq _) (.cons (Stab.eq _) (.cons (Stab.eq _) (.cons (fun _ _ _ he h => h.ext he) (.cons (fun _ _ _ he ⟨b, A, n, c, h1, h2⟩ => ⟨b, A, n, c, h1, h2.ext he⟩) .nil)))))))
  case steps =>
    refine .cons ?s0 (.cons ?s1 (.cons ?s2 (.cons ?s3 (.cons ?s4 (.cons ?s5 (.cons ?s6 (.cons ?s7 .nil)))))))
    case s0 =>
      intro w' ev hE hk ha hc hf
      have e2 : ev (.tmp 2) = .pointer (some ⟨w.heap.size, 0, none⟩) := ha 2 (by decide)
      exact opStep_val (by simp [execOp, e2, go_sem]) rfl
    case s1 =>
      intro w' ev hE hk ha hc hf
      have e32 : ev (.tmp 32) = .pointer (some ⟨w.heap.size, 0, none⟩) := hk.1 _ rfl
      have c0 : w'.cell? ⟨w.heap.size, 0, none⟩ = some (.bool b) := hE.cellv ((hE0.out.cellv (((Blk.new _ _ _).alloc _).alloc _ |>.cell 0)))
      exact opStep_val (by simp [execOp, e32, c0, go_sem]) rfl
    case s2 =>
      intro w' ev hE hk ha hc hf
      have e2 : ev (.tmp 2) = .pointer (some ⟨w.heap.size, 0, none⟩) := ha 2 (by decide)
      exact opStep_val (by simp [execOp, e2, go_sem]) rfl
    case s3 =>
      intro w' ev hE hk ha hc hf
      have e34 : ev (.tmp 34) = .pointer (some ⟨w.heap.size, 1, none⟩) := hk.1 _ rfl
      have c0 : w'.cell? ⟨w.heap.size, 1, none⟩ = some (.slice A n c) := hE.cellv ((hE0.out.cellv (((Blk.new _ _ _).alloc _).alloc _ |>.cell 1)))
      exact opStep_val (by simp [execOp, e34, c0, go_sem]) rfl
    case s4 =>
      intro w' ev hE hk ha hc hf
      have e3 : ev (.tmp 3) = .pointer (some ⟨w.heap.size + 1, 0, none⟩) := ha 3 (by decide)
      exact opStep_val (by simp [execOp, e3, go_sem]) rfl
    case s5 =>
      intro w' ev hE hk ha hc hf
      have e36 : ev (.tmp 36) = .pointer (some ⟨w.heap.size + 1, 1, none⟩) := hk.1 _ rfl
      have c0 : w'.cell? ⟨w.heap.size + 1, 1, none⟩ = some (.slice A' n' c') := hE.cellv ((hE0.out.cellv ((Blk.new' _ _ (by simp)).alloc _ |>.cell 1)))
      exact opStep_val (by simp [execOp, e36, c0, go_sem]) rfl
    case s6 =>
      intro w' ev hE hk ha hc hf
      have e35 : ev (.tmp 35) = .slice A n c := hk.1 _ rfl
      have e37 : ev (.tmp 37) = .slice A' n' c' := hk.2.1 _ rfl
      refine opStep_call (by simp [execOp, resolve, invoke, hf, e35, e37, go_sem]) (Rtaken_any _ _ _ _ _ (h.out.2.ext ((((Ext.refl _).alloc _).alloc _).alloc _ |>.trans (hE0.out.trans ((Ext.refl _).drew.trans hE)))) (h'.out.2.ext ((((Ext.refl _).alloc _).alloc _).alloc _ |>.trans (hE0.out.trans ((Ext.refl _).drew.trans hE)))) (by rw [val_digs, val_digs]; exact hle.out) (digs_length_mono hle.out) hn.out) ?_
      rintro e w1 ⟨v1, rfl, hW1, hE1⟩
      exact ⟨v1, rfl, hE1, hW1⟩
    case s7 =>
      intro w' ev hE hk ha hc hf
      have e33 : ev (.tmp 33) = .bool b := hk.1 _ rfl
      have f38 := hk.2.1 _ rfl
      refine opStep_call (by simp [execOp, resolve, invoke, hf, e33, go_sem]) (Rmade_any b _ _ _ f38) ?_
      rintro e w1 ⟨b1, A1, n1, k1, rfl, hI1, hE1⟩
      exact ⟨_, rfl, hE1, b1, A1, n1, k1, rfl, by have hb := hb.out; rw [hd.out, hd'.out] at hb; rw [val_digs, val_digs, val_digs, hd.out, sgn_add_ge hb hle.out] at hI1; exact hI1⟩
  case fin =>
    intro g w' hE hF
    obtain ⟨b2, A2, n2, k2, e2, hI2⟩ := hF 7 _ rfl
    simp only [List.length_cons, List.length_nil, Nat.reduceAdd, List.drop_succ_cons, List.drop_zero, List.take_succ_cons, List.take_zero, putG, Act.put, List.setIfInBounds_toArray, List.set_cons_succ, List.set_cons_zero, e2]
    clear hF e2
    replace hI2 := hide hI2
    replace hE := hE0.out.trans ((Ext.refl _).drew.trans hE)
    obtain ⟨hcell, hfr⟩ := hE.cells
    replace hE := hide hE
    clear hc0 hf0
    go_wp2
    refine bodyPost_ret (v := .agg #[.bool b2, .slice A2 n2 k2]) (by simp [results, Tryz.results115, go_sem, hcell]) rfl ⟨_, _, _, _, rfl, ?_, ?_⟩
    · have ht : Ty w' (w.heap.size + 2) 72 := (Ty.new' _ _ (by simp)).ext hE.out
      exact (hI2.out.set ht (by decide) _).set (ht.set _ _) (by decide) _
    · exact (((((Ext.refl _).alloc _).alloc _).alloc _ |>.trans hE.out).set (by simp <;> omega) _).set (by simp <;> omega) _

set_option maxRecDepth 100000 in
set_option maxHeartbeats 800000 in
theorem Radd_lt (b b' : Bool) (A A' : Option Addr) (n c n' c' : Nat) (x y : Int) (w : World) (h : IsInt w (.bool b) (.slice A n c) x) (h' : IsInt w (.bool b') (.slice A' n' c') y) (hn : (digs x.natAbs).length ≤ 4398046511104) (hn' : (digs y.natAbs).length ≤ 4398046511104) (hb : ¬ b = b') (hle : x.natAbs < y.natAbs) :
    Calls Tryz.prog 115 #[.agg #[.bool b, .slice A n c], .agg #[.bool b', .slice A' n' c']] w (RetInt (x + y) w) := by
  have hd := hide h.bool_eq
  have hd' := hide h'.bool_eq
  replace h := hide h
  replace h' := hide h'
  replace hn := hide hn
  replace hn' := hide hn'
  have hbb : (b == b') = false := by simpa using hb
  replace hb := hide hb
  have hcmp : cmpN x.natAbs y.natAbs < 0 := by
    unfold cmpN
    rw [if_pos hle]; omega
  replace hle := hide hle
  go_enter Tryz.func115, Tryz.ntmps115
  go_wp2_with (go_at_call 125; refine (Rcompared_any _ _ _ _ _ (h.out.2.ext ((((Ext.refl _).alloc _).alloc _).alloc _)) (h'.out.2.ext ((((Ext.refl _).alloc _).alloc _).alloc _))).mono ?_; rintro e w1 ⟨rfl, hE0⟩; replace hE0 := hide hE0; obtain ⟨hc0, hf0⟩ := hE0.out.cells)
  refine wp_region_v (by kernel_rfl) [[], [(24, 0)], [], [(26, 2)], [], [(28, 4)], [(27, 3), (29, 5)], [(25, 1), (30, 6)]] [[], [0], [], [2], [], [4], [2, 3, 4, 5], [0, 1, 2, 3, 4, 5, 6]]
    [fun v _ => v = .pointer (some ⟨w.heap.size + 1, 0, none⟩), fun v _ => v = .bool b', fun v _ => v = .pointer (some ⟨w.heap.size + 1, 1, none⟩), fun v _ => v = .slice A' n' c', fun v _ => v = .pointer (some ⟨w.heap.size, 1, none⟩), fun v _ => v = .slice A n c, fun v w' => Words w' v (digs (val (digs y.natAbs) - val (digs x.natAbs))), fun v w' => ∃ b A n c, v = .agg #[.bool b, .slice A n c] ∧ IsInt w' (.bool b) (.slice A n c) (x + y)]
    rfl (by kernel_rfl) (by kernel_rfl) ?stab ?steps ?fin
  case stab => exact .cons (Stab.eq _) (.cons (Stab.eq _) (.cons (Stab.eq _) (.cons (Stab.eq _) (.cons (Stab.eq _) (.cons (Stab.eq _) (.cons (fun _ _ _ he h => h.ext he) (.cons (fun _ _ _ he ⟨b, A, n, c, h1, h2⟩ => ⟨b, A, n, c, h1, h2.ext he⟩) .nil)))))))
  case steps =>
    refine .cons ?s0 (.cons ?s1 (.cons ?s2 (.cons ?s3 (.cons ?s4 (.cons ?s5 (.cons ?s6 (.cons ?s7 .nil)))))))
    case s0 =>
      intro w' ev hE hk ha hc hf
      have e3 : ev (.tmp 3) = .pointer (some ⟨w.heap.size + 1, 0, none⟩) := ha 3 (by decide)
      exact opStep_val (by simp [execOp, e3, go_sem]) rfl
    case s1 =>
      intro w' ev hE hk ha hc hf
      have e24 : ev (.tmp 24) = .pointer (some ⟨w.heap.size + 1, 0, none⟩) := hk.1 _ rfl
      have c0 : w'.cell? ⟨w.heap.size + 1, 0, none⟩ = some (.bool b') := hE.cellv ((hE0.out.cellv ((Blk.new' _ _ (by simp)).alloc _ |>.cell 0)))
      exact opStep_val (by simp [execOp, e24, c0, go_sem]) rfl
    case s2 =>
      intro w' ev hE hk ha hc hf
      have e3 : ev (.tmp 3) = .pointer (some ⟨w.heap.size + 1, 0, none⟩) := ha 3 (by decide)
      exact opStep_val (by simp [execOp, e3, go_sem]) rfl
    case s3 =>
      intro w' ev hE hk ha hc hf
      have e26 : ev (.tmp 26) = .pointer (some ⟨w.heap.size + 1, 1, none⟩) := hk.1 _ rfl
      have c0 : w'.cell? ⟨w.heap.size + 1, 1, none⟩ = some (.slice A' n' c') := hE.cellv ((hE0.out.cellv ((Blk.new' _ _ (by simp)).alloc _ |>.cell 1)))
      exact opStep_val (by simp [execOp, e26, c0, go_sem]) rfl
    case s4 =>
      intro w' ev hE hk ha hc hf
      have e2 : ev (.tmp 2) = .pointer (some ⟨w.heap.size, 0, none⟩) := ha 2 (by decide)
      exact opStep_val (by simp [execOp, e2, go_sem]) rfl
    case s5 =>
      intro w' ev hE hk ha hc hf
      have e28 : ev (.tmp 28) = .pointer (some ⟨w.heap.size, 1, none⟩) := hk.1 _ rfl
      have c0 : w'.cell? ⟨w.heap.size, 1, none⟩ = some (.slice A n c) := hE.cellv ((hE0.out.cellv (((Blk.new _ _ _).alloc _).alloc _ |>.cell 1)))
      exact opStep_val (by simp [execOp, e28, c0, go_sem]) rfl
    case s6 =>
      intro w' ev hE hk ha hc hf
      have e27 : ev (.tmp 27) = .slice A' n' c' := hk.1 _ rfl
      have e29 : ev (.tmp 29) = .slice A n c := hk.2.1 _ rfl
      refine opStep_call (by simp [execOp, resolve, invoke, hf, e27, e29, go_sem]) (Rtaken_any _ _ _ _ _ (h'.out.2.ext ((((Ext.refl _).alloc _).alloc _).alloc _ |>.trans (hE0.out.trans ((Ext.refl _).drew.trans hE)))) (h.out.2.ext ((((Ext.refl _).alloc _).alloc _).alloc _ |>.trans (hE0.out.trans ((Ext.refl _).drew.trans hE)))) (by rw [val_digs, val_digs]; exact Nat.le_of_lt hle.out) (digs_length_mono (Nat.le_of_lt hle.out)) hn'.out) ?_
      rintro e w1 ⟨v1, rfl, hW1, hE1⟩
      exact ⟨v1, rfl, hE1, hW1⟩
    case s7 =>
      intro w' ev hE hk ha hc hf
      have e25 : ev (.tmp 25) = .bool b' := hk.1 _ rfl
      have f30 := hk.2.1 _ rfl
      refine opStep_call (by simp [execOp, resolve, invoke, hf, e25, go_sem]) (Rmade_any b' _ _ _ f30) ?_
      rintro e w1 ⟨b1, A1, n1, k1, rfl, hI1, hE1⟩
      exact ⟨_, rfl, hE1, b1, A1, n1, k1, rfl, by have hb := hb.out; rw [hd.out, hd'.out] at hb; rw [val_digs, val_digs, val_digs, hd'.out, sgn_add_lt hb (Nat.le_of_lt hle.out)] at hI1; exact hI1⟩
  case fin =>
    intro g w' hE hF
    obtain ⟨b2, A2, n2, k2, e2, hI2⟩ := hF 7 _ rfl
    simp only [List.length_cons, List.length_nil, Nat.reduceAdd, List.drop_succ_cons, List.drop_zero, List.take_succ_cons, List.take_zero, putG, Act.put, List.setIfInBounds_toArray, List.set_cons_succ, List.set_cons_zero, e2]
    clear hF e2
    replace hI2 := hide hI2
    replace hE := hE0.out.trans ((Ext.refl _).drew.trans hE)
    obtain ⟨hcell, hfr⟩ := hE.cells
    replace hE := hide hE
    clear hc0 hf0
    go_wp2
    refine bodyPost_ret (v := .agg #[.bool b2, .slice A2 n2 k2]) (by simp [results, Tryz.results115, go_sem, hcell]) rfl ⟨_, _, _, _, rfl, ?_, ?_⟩
    · have ht : Ty w' (w.heap.size + 2) 72 := (Ty.new' _ _ (by simp)).ext hE.out
      exact (hI2.out.set ht (by decide) _).set (ht.set _ _) (by decide) _
    · exact (((((Ext.refl _).alloc _).alloc _).alloc _ |>.trans hE.out).set (by simp <;> omega) _).set (by simp <;> omega) _

theorem Radd_any (b b' : Bool) (A A' : Option Addr) (n c n' c' : Nat) (x y : Int) (w : World) (h : IsInt w (.bool b) (.slice A n c) x) (h' : IsInt w (.bool b') (.slice A' n' c') y) (hn : (digs x.natAbs).length ≤ 4398046511104) (hn' : (digs y.natAbs).length ≤ 4398046511104) :
    Calls Tryz.prog 115 #[.agg #[.bool b, .slice A n c], .agg #[.bool b', .slice A' n' c']] w (RetInt (x + y) w) := by
  by_cases hb : b = b'
  · exact Radd_same b b' A A' n c n' c' x y w h h' hn hn' hb
  · rcases Nat.lt_or_ge x.natAbs y.natAbs with hl | hl
    · exact Radd_lt b b' A A' n c n' c' x y w h h' hn hn' hb hl
    · exact Radd_ge b b' A A' n c n' c' x y w h h' hn hn' hb hl

set_option maxRecDepth 100000 in
set_option maxHeartbeats 2000000 in
theorem Rdivmod_plain (b b' : Bool) (A A' : Option Addr) (n c n' c' : Nat) (x y : Int) (w : World) (h : IsInt w (.bool b) (.slice A n c) x) (h' : IsInt w (.bool b') (.slice A' n' c') y) (hn : (digs x.natAbs).length ≤ 4398046511103) (hn' : (digs y.natAbs).length ≤ 4398046511104) (hy : y ≠ 0) (hc : ¬ x < 0 ∨ x.natAbs % y.natAbs = 0) :
    Calls Tryz.prog 117 #[.agg #[.bool b, .slice A n c], .agg #[.bool b', .slice A' n' c']] w (RetDM (x / y) (x % y) w) := by
  have hd := hide h.bool_eq
  have hd' := hide h'.bool_eq
  have hq := hide (dm_plain hy hc)
  have hy0 : Hid (y.natAbs ≠ 0) := by show _ ≠ 0; omega
  have hn1' : ((n' : Int) == 0) = false := by have e := h'.2.len; have hne : n' ≠ 0 := fun e0 => hy0.out (digs_length_zero.1 (by rw [← e]; exact e0)); simpa using hne
  replace h := hide h
  replace h' := hide h'
  replace hn := hide hn
  replace hn' := hide hn'
  replace hc := hide hc
  go_enter Tryz.func117, Tryz.ntmps117
  go_wp2_with fail
  refine (Rdivided_any _ _ _ _ _ (h.out.2.ext (((((Ext.refl _).alloc _).alloc _).alloc _).alloc _)) (h'.out.2.ext (((((Ext.refl _).alloc _).alloc _).alloc _).alloc _)) hn.out hy0.out).mono ?_
  rintro e w2 ⟨A3, A4, n3, c3, n4, c4, rfl, hW3, hW4, hE2⟩
  have hcond : Hid (b = false ∨ n4 = 0) := by
    rcases hc.out with hc | hc
    · left; rw [hd.out]; simpa using hc
    · rw [hc] at hW4
      exact .inr (by rw [hW4.len, digs_zero]; rfl)
  replace hE2 := hide hE2
  obtain ⟨hcell, hfr⟩ := hE2.out.cells
  replace hW3 := hide hW3
  replace hW4 := hide hW4
  clear hn1'
  cases b with
  | false =>
    clear hcond
    go_wp2_with fail
    refine (Rmade_any _ _ _ _ hW3.out).mono ?_
    rintro e w3 ⟨b5, A5, n5, c5, rfl, hI5, hE3⟩
    rw [val_digs, show b' = !(decide (x < 0) == decide (y < 0)) by rw [← hd.out, ← hd'.out]; cases b' <;> rfl, ← hq.out.1] at hI5
    replace hW4 := hide (hW4.out.ext hE3)
    replace hI5 := hide hI5
    replace hE3 := hide (hE2.out.trans hE3)
    clear hcell hfr
    obtain ⟨hcell, hfr⟩ := hE3.out.cells
    go_wp2_with fail
    refine (Rmade_any _ _ _ _ hW4.out).mono ?_
    rintro e w4 ⟨b6, A6, n6, c6, rfl, hI6, hE4⟩
    rw [val_digs, ← hq.out.2] at hI6
    replace hI5 := hide (hI5.out.ext hE4)
    replace hI6 := hide hI6
    replace hE4 := hide (hE3.out.trans hE4)
    clear hcell hfr
    obtain ⟨hcell, hfr⟩ := hE4.out.cells
    go_wp2
    refine bodyPost_ret (v := .tuple #[.agg #[.bool b5, .slice A5 n5 c5], .agg #[.bool b6, .slice A6 n6 c6], .int .i64 0]) (by simp [results, Tryz.results117, go_sem, hcell]) rfl ⟨_, _, _, _, _, _, _, _, rfl, ?_, ?_, ?_⟩
    · have ht : Ty w4 (w.heap.size + 2) 72 := ((Ty.new' _ _ (by simp)).alloc _).ext hE4.out
      have ht' : Ty w4 (w.heap.size + 3) 72 := (Ty.new' _ _ (by simp)).ext hE4.out
      exact (((hI5.out.set ht (by decide) _).set (ht.set _ _) (by decide) _).set ((ht'.set _ _).set _ _) (by decide) _).set (((ht'.set _ _).set _ _).set _ _) (by decide) _
    · have ht : Ty w4 (w.heap.size + 2) 72 := ((Ty.new' _ _ (by simp)).alloc _).ext hE4.out
      have ht' : Ty w4 (w.heap.size + 3) 72 := (Ty.new' _ _ (by simp)).ext hE4.out
      exact (((hI6.out.set ht (by decide) _).set (ht.set _ _) (by decide) _).set ((ht'.set _ _).set _ _) (by decide) _).set (((ht'.set _ _).set _ _).set _ _) (by decide) _
    · exact ((((((((Ext.refl _).alloc _).alloc _).alloc _).alloc _).trans hE4.out |>.set (by simp <;> omega) _).set (by simp <;> omega) _).set (by simp <;> omega) _).set (by simp <;> omega) _
  | true =>
    obtain rfl : n4 = 0 := by
      rcases hcond.out with h0 | h0
      · cases h0
      · exact h0
    clear hcond
    go_wp2_with fail
    refine (Rmade_any _ _ _ _ hW3.out).mono ?_
    rintro e w3 ⟨b5, A5, n5, c5, rfl, hI5, hE3⟩
    rw [val_digs, show (!b') = !(decide (x < 0) == decide (y < 0)) by rw [← hd.out, ← hd'.out]; cases b' <;> rfl, ← hq.out.1] at hI5
    replace hW4 := hide (hW4.out.ext hE3)
    replace hI5 := hide hI5
    replace hE3 := hide (hE2.out.trans hE3)
    clear hcell hfr
    obtain ⟨hcell, hfr⟩ := hE3.out.cells
    go_wp2_with fail
    refine (Rmade_any _ _ _ _ hW4.out).mono ?_
    rintro e w4 ⟨b6, A6, n6, c6, rfl, hI6, hE4⟩
    rw [val_digs, ← hq.out.2] at hI6
    replace hI5 := hide (hI5.out.ext hE4)
    replace hI6 := hide hI6
    replace hE4 := hide (hE3.out.trans hE4)
    clear hcell hfr
    obtain ⟨hcell, hfr⟩ := hE4.out.cells
    go_wp2
    refine bodyPost_ret (v := .tuple #[.agg #[.bool b5, .slice A5 n5 c5], .agg #[.bool b6, .slice A6 n6 c6], .int .i64 0]) (by simp [results, Tryz.results117, go_sem, hcell]) rfl ⟨_, _, _, _, _, _, _, _, rfl, ?_, ?_, ?_⟩
    · have ht : Ty w4 (w.heap.size + 2) 72 := ((Ty.new' _ _ (by simp)).alloc _).ext hE4.out
      have ht' : Ty w4 (w.heap.size + 3) 72 := (Ty.new' _ _ (by simp)).ext hE4.out
      exact (((hI5.out.set ht (by decide) _).set (ht.set _ _) (by decide) _).set ((ht'.set _ _).set _ _) (by decide) _).set (((ht'.set _ _).set _ _).set _ _) (by decide) _
    · have ht : Ty w4 (w.heap.size + 2) 72 := ((Ty.new' _ _ (by simp)).alloc _).ext hE4.out
      have ht' : Ty w4 (w.heap.size + 3) 72 := (Ty.new' _ _ (by simp)).ext hE4.out
      exact (((hI6.out.set ht (by decide) _).set (ht.set _ _) (by decide) _).set ((ht'.set _ _).set _ _) (by decide) _).set (((ht'.set _ _).set _ _).set _ _) (by decide) _
    · exact ((((((((Ext.refl _).alloc _).alloc _).alloc _).alloc _).trans hE4.out |>.set (by simp <;> omega) _).set (by simp <;> omega) _).set (by simp <;> omega) _).set (by simp <;> omega) _

set_option maxRecDepth 100000 in
set_option maxHeartbeats 2000000 in
theorem Rdivmod_up (b b' : Bool) (A A' : Option Addr) (n c n' c' : Nat) (x y : Int) (w : World) (h : IsInt w (.bool b) (.slice A n c) x) (h' : IsInt w (.bool b') (.slice A' n' c') y) (hn : (digs x.natAbs).length ≤ 4398046511103) (hn' : (digs y.natAbs).length ≤ 4398046511104) (hy : y ≠ 0) (hx : x < 0) (hc : x.natAbs % y.natAbs ≠ 0) :
    Calls Tryz.prog 117 #[.agg #[.bool b, .slice A n c], .agg #[.bool b', .slice A' n' c']] w (RetDM (x / y) (x % y) w) := by
  have hd := hide h.bool_eq
  have hd' := hide h'.bool_eq
  have hq := hide (dm_up hy hx hc)
  have hy0 : Hid (y.natAbs ≠ 0) := by show _ ≠ 0; omega
  have hn1' : ((n' : Int) == 0) = false := by have e := h'.2.len; have hne : n' ≠ 0 := fun e0 => hy0.out (digs_length_zero.1 (by rw [← e]; exact e0)); simpa using hne
  replace h := hide h
  replace h' := hide h'
  replace hn := hide hn
  replace hn' := hide hn'
  replace hc := hide hc
  replace hx := hide hx
  go_enter Tryz.func117, Tryz.ntmps117
  go_wp2_with fail
  refine (Rdivided_any _ _ _ _ _ (h.out.2.ext (((((Ext.refl _).alloc _).alloc _).alloc _).alloc _)) (h'.out.2.ext (((((Ext.refl _).alloc _).alloc _).alloc _).alloc _)) hn.out hy0.out).mono ?_
  rintro e w2 ⟨A3, A4, n3, c3, n4, c4, rfl, hW3, hW4, hE2⟩
  have hn4 : 0 < n4 := by
    rw [hW4.len]
    rcases Nat.eq_zero_or_pos (digs (x.natAbs % y.natAbs)).length with h0 | h0
    · exact absurd (digs_length_zero.1 h0) hc.out
    · exact h0
  have hqn : Hid ((digs (x.natAbs / y.natAbs)).length ≤ 4398046511104) := digs_len_of_le (Nat.div_le_self _ _) (Nat.le_succ_of_le hn.out)
  have hrn : Hid (x.natAbs % y.natAbs ≤ y.natAbs) := Nat.le_of_lt (Nat.mod_lt _ (Nat.pos_of_ne_zero hy0.out))
  replace hE2 := hide hE2
  obtain ⟨hcell, hfr⟩ := hE2.out.cells
  replace hW3 := hide hW3
  replace hW4 := hide hW4
  obtain rfl : b = true := by rw [hd.out]; simpa using hx.out
  have hdn : decide ((0 : Int) < n4) = true := by simp; omega
  clear hn1'
  have hone : Hid (Words (w2.alloc (.cells #[.int .u32 1] 105)) (.slice (some ⟨w2.heap.size, 0, none⟩) 1 1) [1]) := Words.of_blk (l := [1]) (c := 1) (Blk.new _ _ _) (fun x hx => by simp at hx; subst hx; exact one_lt_BB) (by simp) (by omega)
  go_wp2_with fail
  refine (Radded_any _ _ _ _ _ (hW3.out.ext ((Ext.refl _).alloc _)) hone.out hqn.out (by simp)).mono ?_
  rintro e w3 ⟨v3, rfl, hW5, hE3⟩
  obtain ⟨A5', n5', c5', rfl⟩ := hW5.form
  have hW3 := hW5
  rw [val_digs, show val [1] = 1 from rfl] at hW3
  clear hW5 hone
  replace hE3 := ((Ext.refl _).alloc _).trans hE3
  replace hW4 := hide (hW4.out.ext hE3)
  replace hE2 := hide (hE2.out.trans hE3)
  replace hW3 := hide hW3
  clear hcell hfr hE3
  obtain ⟨hcell, hfr⟩ := hE2.out.cells
  go_wp2_with fail
  refine (Rtaken_any _ _ _ _ _ (h'.out.2.ext ((((((Ext.refl _).alloc _).alloc _).alloc _).alloc _).trans hE2.out)) hW4.out (by rw [val_digs, val_digs]; exact hrn.out) (digs_length_mono hrn.out) hn'.out).mono ?_
  rintro e w4 ⟨v4, rfl, hW5, hE3⟩
  obtain ⟨A6', n6', c6', rfl⟩ := hW5.form
  replace hW3 := hide (hW3.out.ext hE3)
  have hW4 := hW5
  rw [val_digs, val_digs] at hW4
  clear hW5
  replace hW4 := hide hW4
  replace hE2 := hide (hE2.out.trans hE3)
  clear hcell hfr hE3
  obtain ⟨hcell, hfr⟩ := hE2.out.cells
  go_wp2_with fail
  refine (Rmade_any _ _ _ _ hW3.out).mono ?_
  rintro e w5 ⟨b5, A5, n5, c5, rfl, hI5, hE3⟩
  rw [val_digs, show (!b') = !(decide (x < 0) == decide (y < 0)) by rw [← hd.out, ← hd'.out]; cases b' <;> rfl, ← hq.out.1] at hI5
  replace hW4 := hide (hW4.out.ext hE3)
  replace hI5 := hide hI5
  replace hE3 := hide (hE2.out.trans hE3)
  clear hcell hfr
  obtain ⟨hcell, hfr⟩ := hE3.out.cells
  go_wp2_with fail
  refine (Rmade_any _ _ _ _ hW4.out).mono ?_
  rintro e w6 ⟨b6, A6, n6, c6, rfl, hI6, hE4⟩
  rw [val_digs, ← hq.out.2] at hI6
  replace hI5 := hide (hI5.out.ext hE4)
  replace hI6 := hide hI6
  replace hE4 := hide (hE3.out.trans hE4)
  clear hcell hfr
  obtain ⟨hcell, hfr⟩ := hE4.out.cells
  go_wp2
  refine bodyPost_ret (v := .tuple #[.agg #[.bool b5, .slice A5 n5 c5], .agg #[.bool b6, .slice A6 n6 c6], .int .i64 0]) (by simp [results, Tryz.results117, go_sem, hcell]) rfl ⟨_, _, _, _, _, _, _, _, rfl, ?_, ?_, ?_⟩
  · have ht : Ty w6 (w.heap.size + 2) 72 := ((Ty.new' _ _ (by simp)).alloc _).ext hE4.out
    have ht' : Ty w6 (w.heap.size + 3) 72 := (Ty.new' _ _ (by simp)).ext hE4.out
    exact (((hI5.out.set ht (by decide) _).set (ht.set _ _) (by decide) _).set ((ht'.set _ _).set _ _) (by decide) _).set (((ht'.set _ _).set _ _).set _ _) (by decide) _
  · have ht : Ty w6 (w.heap.size + 2) 72 := ((Ty.new' _ _ (by simp)).alloc _).ext hE4.out
    have ht' : Ty w6 (w.heap.size + 3) 72 := (Ty.new' _ _ (by simp)).ext hE4.out
    exact (((hI6.out.set ht (by decide) _).set (ht.set _ _) (by decide) _).set ((ht'.set _ _).set _ _) (by decide) _).set (((ht'.set _ _).set _ _).set _ _) (by decide) _
  · exact ((((((((Ext.refl _).alloc _).alloc _).alloc _).alloc _).trans hE4.out |>.set (by simp <;> omega) _).set (by simp <;> omega) _).set (by simp <;> omega) _).set (by simp <;> omega) _

theorem Rdivmod_any (b b' : Bool) (A A' : Option Addr) (n c n' c' : Nat) (x y : Int) (w : World) (h : IsInt w (.bool b) (.slice A n c) x) (h' : IsInt w (.bool b') (.slice A' n' c') y) (hn : (digs x.natAbs).length ≤ 4398046511103) (hn' : (digs y.natAbs).length ≤ 4398046511104) (hy : y ≠ 0) :
    Calls Tryz.prog 117 #[.agg #[.bool b, .slice A n c], .agg #[.bool b', .slice A' n' c']] w (RetDM (x / y) (x % y) w) := by
  by_cases hc : ¬ x < 0 ∨ x.natAbs % y.natAbs = 0
  · exact Rdivmod_plain b b' A A' n c n' c' x y w h h' hn hn' hy hc
  · exact Rdivmod_up b b' A A' n c n' c' x y w h h' hn hn' hy (by omega) (by omega)


set_option maxRecDepth 100000 in
set_option maxHeartbeats 400000 in
theorem Rneg_any (b : Bool) (A : Option Addr) (n c : Nat) (z : Int) (w : World) (h : IsInt w (.bool b) (.slice A n c) z) :
    Calls Tryz.prog 98 #[.agg #[.bool b, .slice A n c]] w (RetInt (-z) w) := by
  have hd := hide h.neg_eq
  replace h := hide h
  go_enter Tryz.func98, Tryz.ntmps98
  go_wp2_with fail
  refine (Rmade_any (!b) _ _ _ (h.out.2.ext (((Ext.refl _).alloc _).alloc _))).mono ?_
  rintro e w2 ⟨b2, A2, n2, k2, rfl, hI2, hE2⟩
  rw [val_digs, hd.out] at hI2
  replace hI2 := hide hI2
  obtain ⟨hcell, hfr⟩ := hE2.cells
  replace hE2 := hide hE2
  go_wp2
  refine bodyPost_ret (v := .agg #[.bool b2, .slice A2 n2 k2]) (by simp [results, Tryz.results98, go_sem, hcell]) rfl ⟨_, _, _, _, rfl, ?_, ?_⟩
  · have ht : Ty w2 (w.heap.size + 1) 72 := (Ty.new' _ _ (by simp)).ext hE2.out
    exact (hI2.out.set ht (by decide) _).set (ht.set _ _) (by decide) _
  · exact ((((Ext.refl _).alloc _).alloc _).trans hE2.out |>.set (by simp <;> omega) _).set (by simp <;> omega) _
set_option maxRecDepth 100000 in
set_option maxHeartbeats 400000 in
theorem Rsign_any (b : Bool) (A : Option Addr) (n c : Nat) (z : Int) (w : World) (h : IsInt w (.bool b) (.slice A n c) z) :
    Calls Tryz.prog 71 #[.agg #[.bool b, .slice A n c]] w fun e w' => e = .returned (.int .i64 z.sign) ∧ Ext w w' := by
  obtain ⟨h1, h2⟩ := h
  have e2 := h2.len
  clear h2
  injection h1 with h1
  cases b with
  | true =>
    have hz : z < 0 := by simpa using h1
    clear h1 e2
    go_enter Tryz.func71, Tryz.ntmps71
    go_wp2
    go_ret
    exact ⟨by rw [Int.sign_eq_neg_one_of_neg hz]; rfl, (Ext.refl _).alloc _⟩
  | false =>
    have hz : 0 ≤ z := by
      have : ¬ z < 0 := by simpa using h1
      omega
    clear h1
    by_cases h0 : z = 0
    · subst h0
      obtain rfl : n = 0 := by rw [e2]; show (digs 0).length = 0; rw [digs_zero]; rfl
      clear e2
      go_enter Tryz.func71, Tryz.ntmps71
      go_wp2
      go_ret
      exact ⟨rfl, (Ext.refl _).alloc _⟩
    · have e0 : n ≠ 0 := by
        rw [e2]
        intro e
        have := digs_length_zero.1 e
        omega
      have hs : Hid (z.sign = 1) := hide (Int.sign_eq_one_of_pos (by omega))
      clear e2 h0 hz
      have hm1 : ¬ (n : Int) < 1 := by omega
      have hm2 : 1 ≤ n := by omega
      by_cases h1 : n = 1
      · subst h1
        go_enter Tryz.func71, Tryz.ntmps71
        go_wp2
        go_ret
        exact ⟨by rw [hs.out]; rfl, (Ext.refl _).alloc _⟩
      · have hm3 : 1 < n := by omega
        have hm4 : (1 : Int) < n := by omega
        go_enter Tryz.func71, Tryz.ntmps71
        go_wp2
        go_ret
        exact ⟨by rw [hs.out]; exact ret_int (k := .i64) (a := min (n : Int) 1) (b := 1) (by omega), (Ext.refl _).alloc _⟩
theorem Rwords_int (z : Int) (w : World) (h0 : 0 ≤ z) (hm : z < 18446744073709551616) :
    Calls Tryz.prog 94 #[.int .u64 z] w fun e w' => ∃ v', e = .returned v' ∧ Words w' v' (digs z.toNat) ∧ Ext w w' := by
  obtain ⟨m, rfl⟩ := Int.eq_ofNat_of_zero_le h0
  rw [Int.toNat_natCast]
  exact Rwords_any m w (by omega)
set_option maxRecDepth 100000 in
set_option maxHeartbeats 400000 in
theorem Rof_any (n : Int) (w : World) (h0 : -9223372036854775808 ≤ n) (h1 : n ≤ 9223372036854775807) :
    Calls Tryz.prog 69 #[.int .i64 n] w fun e w' => RetInt n w e w' := by
  by_cases hn : n < 0
  · have hd : decide (n < 0) = true := by simpa using hn
    go_enter Tryz.func69, Tryz.ntmps69
    go_wp2_with fail
    rw [show -(n + 1) + 1 = -n by omega]
    refine (Rwords_int _ _ (by omega) (by omega)).mono ?_
    rintro e w1 ⟨v', rfl, hW, hE⟩
    go_wp2_with fail
    refine (Rmade_any _ _ _ _ hW).mono ?_
    rintro e w2 ⟨b0, A0, n0, k0, rfl, hI, hE2⟩
    replace hE2 := hE.trans hE2
    obtain ⟨hcell, hfr⟩ := hE2.cells
    replace hI := hide hI
    replace hE2 := hide hE2
    clear hE hW
    go_wp2
    refine bodyPost_ret (v := .agg #[.bool b0, .slice A0 n0 k0]) (by simp [results, Tryz.results69, go_sem, hcell]) rfl ⟨_, _, _, _, rfl, ?_, ?_⟩
    · have ht := (Ty.new w #[Value.bool false, Value.slice none 0 0] 72).ext hE2.out
      have hI := hI.out
      rw [val_digs, show sgn true (-n).toNat = n by simp [sgn]; omega] at hI
      exact (hI.set ht (by decide) _).set (ht.set _ _) (by decide) _
    · exact ((((Ext.refl _).alloc _).trans hE2.out).set (Nat.le_refl _) _).set (Nat.le_refl _) _
  · have hd : decide (n < 0) = false := by simpa using hn
    go_enter Tryz.func69, Tryz.ntmps69
    go_wp2_with fail
    refine (Rwords_int _ _ (by omega) (by omega)).mono ?_
    rintro e w1 ⟨v', rfl, hW, hE⟩
    go_wp2_with fail
    refine (Rmade_any _ _ _ _ hW).mono ?_
    rintro e w2 ⟨b0, A0, n0, k0, rfl, hI, hE2⟩
    replace hE2 := hE.trans hE2
    obtain ⟨hcell, hfr⟩ := hE2.cells
    replace hI := hide hI
    replace hE2 := hide hE2
    clear hE hW
    go_wp2
    refine bodyPost_ret (v := .agg #[.bool b0, .slice A0 n0 k0]) (by simp [results, Tryz.results69, go_sem, hcell]) rfl ⟨_, _, _, _, rfl, ?_, ?_⟩
    · have ht := (Ty.new w #[Value.bool false, Value.slice none 0 0] 72).ext hE2.out
      have hI := hI.out
      rw [val_digs, show sgn false n.toNat = n by simp [sgn]; omega] at hI
      exact (hI.set ht (by decide) _).set (ht.set _ _) (by decide) _
    · exact ((((Ext.refl _).alloc _).trans hE2.out).set (Nat.le_refl _) _).set (Nat.le_refl _) _

/-- The call returns words. -/
def RetWords (l : List Nat) (w : World) (e : Ending) (w' : World) : Prop := ∃ v', e = .returned v' ∧ Words w' v' l ∧ Ext w w'
set_option maxRecDepth 100000 in
set_option maxHeartbeats 2000000 in
theorem Rcommon_any (va vb : Value) (x y : Nat) (w : World) (ha : Words w va (digs x)) (hb : Words w vb (digs y)) (hn : (digs x).length ≤ 4398046511103) (hn' : (digs y).length ≤ 4398046511103) :
    Calls Tryz.prog 116 #[va, vb] w (RetWords (digs (Nat.gcd x y)) w) := by
  obtain ⟨A, n, c, rfl⟩ := ha.form
  obtain ⟨A', n', c', rfl⟩ := hb.form
  generalize hG : Nat.gcd x y = G at *
  replace hG := hide hG
  replace ha := hide ha
  replace hb := hide hb
  replace hn := hide hn
  replace hn' := hide hn'
  go_enter Tryz.func116, Tryz.ntmps116
  go_wp2
  go_loopg [0, 1] (y) (fun k X Y wr => GcdRel w G 4398046511103 k X Y wr)
  case atStart => exact ⟨_, _, _, _, _, _, _, _, rfl, rfl, ha.out, hb.out, hG.out, rfl, hn.out, hn'.out, Ext.refl _⟩
  case round =>
    obtain ⟨p, q, A1, A2, n1, c1, n2, c2, rfl, rfl, hW1, hW2, hgc, rfl, hl1, hl2, hEr⟩ := hrel
    clear ha hb
    have en1 := hW1.len
    have en2 := hW2.len
    by_cases hq0 : q = 0
    · subst hq0
      obtain rfl : n2 = 0 := by rw [en2, digs_zero]; rfl
      have hp : Hid (p = G) := by show p = G; rw [← hgc]; simp
      replace hW1 := hide hW1
      replace hEr := hide hEr
      clear en1 en2 hgc hW2 hl1 hl2
      go_wp2
      go_ret
      exact ⟨_, rfl, by rw [← hp.out]; exact hW1.out, hEr.out⟩
    · have hn2 : 0 < n2 := by
        rcases Nat.eq_zero_or_pos n2 with h | h
        · exact absurd (digs_length_zero.1 (by rw [← en2]; exact h)) hq0
        · exact h
      have hdn : decide ((0 : Int) < n2) = true := by simp; omega
      by_cases hs : n1 ≤ 2 ∧ n2 ≤ 2
      · obtain ⟨hs1, hs2⟩ := hs
        have hd1 : decide ((n1 : Int) ≤ 2) = true := by simp; omega
        have hd2 : decide ((n2 : Int) ≤ 2) = true := by simp; omega
        have hpB : p < 18446744073709551616 := by rw [← BB_sq]; exact lt_of_digs (by omega)
        have hqB : q < 18446744073709551616 := by rw [← BB_sq]; exact lt_of_digs (by omega)
        have hl1' := hide (show (digs p).length ≤ 2 by omega)
        have hl2' := hide (show (digs q).length ≤ 2 by omega)
        replace hW1 := hide hW1
        replace hW2 := hide hW2
        replace hgc := hide hgc
        replace hEr := hide hEr
        replace en1 := hide en1
        replace en2 := hide en2
        clear hl1 hl2
        go_wp2_with fail
        refine (Rnumber_any _ _ _ hW1.out hl1'.out).mono ?_
        rintro e w1 ⟨rfl, rfl⟩
        rw [val_digs]
        go_wp2_with fail
        refine (Rnumber_any _ _ _ hW2.out hl2'.out).mono ?_
        rintro e w1 ⟨rfl, rfl⟩
        rw [val_digs]
        go_wp2_with fail
        refine (Reuclid_any p q _ hpB hqB).mono ?_
        rintro e w1 ⟨rfl, rfl⟩
        rw [hgc.out]
        have hGB : G < 18446744073709551616 := by
          rw [← hgc.out]
          exact Nat.lt_of_le_of_lt (Nat.gcd_le_right _ (Nat.pos_of_ne_zero hq0)) hqB
        go_wp2_with fail
        refine (Rwords_any G _ hGB).mono ?_
        rintro e w2 ⟨v2, rfl, hW, hE2⟩
        replace hW := hide hW
        replace hE2 := hide (hEr.out.trans hE2)
        go_wp2
        go_ret
        exact ⟨_, rfl, hW.out, hE2.out⟩
      · have hlr : Hid ((digs (p % q)).length ≤ 4398046511103) := digs_len_of_le (Nat.le_of_lt (Nat.mod_lt p (Nat.pos_of_ne_zero hq0))) hl2
        have hlt : p % q < q := Nat.mod_lt _ (Nat.pos_of_ne_zero hq0)
        have hg2 : Hid (Nat.gcd q (p % q) = G) := by rw [← hgc, Nat.gcd_comm p q, Nat.gcd_rec q p, Nat.gcd_comm]; rfl
        replace hW1 := hide hW1
        replace hW2 := hide hW2
        replace hgc := hide hgc
        replace hEr := hide hEr
        replace hl1 := hide hl1
        replace hl2 := hide hl2
        replace en1 := hide en1
        replace en2 := hide en2
        replace hlt := hide hlt
        by_cases hs1 : n1 ≤ 2
        · have hs2 : ¬ n2 ≤ 2 := fun h => hs ⟨hs1, h⟩
          have hd1 : decide ((n1 : Int) ≤ 2) = true := by simp; omega
          have hd2 : decide ((n2 : Int) ≤ 2) = false := by simp; omega
          replace hs := hide hs
          go_wp2_with fail
          refine (Rdivided_any _ _ p q _ hW1.out hW2.out hl1.out hq0).mono ?_
          rintro e w1 ⟨A3, A4, n3, c3, n4, c4, rfl, hW3, hW4, hE1⟩
          replace hW2 := hide (hW2.out.ext hE1)
          replace hE1 := hide (hEr.out.trans hE1)
          replace hW4 := hide hW4
          clear hW1 hEr hW3
          go_wp2
          go_roundg (p % q)
          case measure => exact hlt.out
          case rel => exact ⟨_, _, _, _, _, _, _, _, rfl, rfl, hW2.out, hW4.out, hg2.out, rfl, hl2.out, hlr.out, hE1.out⟩
        · have hd1 : decide ((n1 : Int) ≤ 2) = false := by simp; omega
          replace hs := hide hs
          go_wp2_with fail
          refine (Rdivided_any _ _ p q _ hW1.out hW2.out hl1.out hq0).mono ?_
          rintro e w1 ⟨A3, A4, n3, c3, n4, c4, rfl, hW3, hW4, hE1⟩
          replace hW2 := hide (hW2.out.ext hE1)
          replace hE1 := hide (hEr.out.trans hE1)
          replace hW4 := hide hW4
          clear hW1 hEr hW3
          go_wp2
          go_roundg (p % q)
          case measure => exact hlt.out
          case rel => exact ⟨_, _, _, _, _, _, _, _, rfl, rfl, hW2.out, hW4.out, hg2.out, rfl, hl2.out, hlr.out, hE1.out⟩
set_option maxRecDepth 100000 in
set_option maxHeartbeats 800000 in
theorem Rgcd_any (b b' : Bool) (A A' : Option Addr) (n c n' c' : Nat) (x y : Int) (w : World) (h : IsInt w (.bool b) (.slice A n c) x) (h' : IsInt w (.bool b') (.slice A' n' c') y) (hn : (digs x.natAbs).length ≤ 4398046511103) (hn' : (digs y.natAbs).length ≤ 4398046511103) :
    Calls Tryz.prog 97 #[.agg #[.bool b, .slice A n c], .agg #[.bool b', .slice A' n' c']] w (RetInt (Nat.gcd x.natAbs y.natAbs) w) := by
  replace h := hide h
  replace h' := hide h'
  replace hn := hide hn
  replace hn' := hide hn'
  go_enter Tryz.func97, Tryz.ntmps97
  go_wp2_with fail
  refine (Rcommon_any _ _ _ _ _ (h.out.2.ext ((((Ext.refl _).alloc _).alloc _).alloc _)) (h'.out.2.ext ((((Ext.refl _).alloc _).alloc _).alloc _)) hn.out hn'.out).mono ?_
  rintro e w1 ⟨v1, rfl, hW, hE1⟩
  obtain ⟨A1, n1, c1, rfl⟩ := hW.form
  replace hW := hide hW
  replace hE1 := hide hE1
  go_wp2_with fail
  refine (Rmade_any false _ _ _ hW.out).mono ?_
  rintro e w2 ⟨b2, A2, n2, k2, rfl, hI2, hE2⟩
  rw [val_digs, show sgn false (Nat.gcd x.natAbs y.natAbs) = ((Nat.gcd x.natAbs y.natAbs : Nat) : Int) from rfl] at hI2
  replace hE2 := hide (hE1.out.trans hE2)
  replace hI2 := hide hI2
  obtain ⟨hcell, hfr⟩ := hE2.out.cells
  go_wp2
  refine bodyPost_ret (v := .agg #[.bool b2, .slice A2 n2 k2]) (by simp [results, Tryz.results97, go_sem, hcell]) rfl ⟨_, _, _, _, rfl, ?_, ?_⟩
  · have ht : Ty w2 (w.heap.size + 2) 72 := (Ty.new' _ _ (by simp)).ext hE2.out
    exact (hI2.out.set ht (by decide) _).set (ht.set _ _) (by decide) _
  · exact (((((Ext.refl _).alloc _).alloc _).alloc _).trans hE2.out |>.set (by simp <;> omega) _).set (by simp <;> omega) _

end Go.Proofs.YteefhmdameeoaaaGreat
