/-
  The law OrderNamed returns true for every input: Lex compares lexicographically; Graded and Reverse compare degrees first, and then lexicographically, and by the last variable that differs.
-/
import Derived.Test.YteefhmdameeoaaaStores
import Derived.Test.YteefhmdameeoaaaLaw3
import Derived.Test.YteefhmdameeoaaaP8
import Derived.Test.YteefhmdameeoaaaBridge
set_option linter.unusedSimpArgs false
set_option linter.unusedVariables false
namespace Go.Proofs.Yteefhmdameeoaaa
open Go.ChangeShapes Go.WideShapes Go.ChangeAt Go.RowKit Go.Deep

theorem ones_in1 : ∀ r ∈ [onesOf 255], In8 r (-1000) 1000 := fun r h => by
  obtain rfl := List.mem_singleton.1 h
  exact (onesOf_in 255).mono (by omega) (by omega)

set_option maxRecDepth 100000 in
set_option maxHeartbeats 16000000 in
theorem named_walk (x0 x1 : Nat → Int) (same : Bool) (w : World) (hx0 : In8 x0 0 65535) (hx1 : In8 x1 0 65535) :
    Calls Try.prog 4 #[.agg #[.int .u16 (x0 0), .int .u16 (x0 1), .int .u16 (x0 2), .int .u16 (x0 3), .int .u16 (x0 4), .int .u16 (x0 5), .int .u16 (x0 6), .int .u16 (x0 7), .int .u16 (x1 0), .int .u16 (x1 1), .int .u16 (x1 2), .int .u16 (x1 3), .int .u16 (x1 4), .int .u16 (x1 5), .int .u16 (x1 6), .int .u16 (x1 7)], .bool same] w fun e w' => e = .returned (.bool true) ∧ Ext w w' := by
  have hb3 : Hid (Blk (w.alloc (.cells #[.int .u16 (x0 0), .int .u16 (x0 1), .int .u16 (x0 2), .int .u16 (x0 3), .int .u16 (x0 4), .int .u16 (x0 5), .int .u16 (x0 6), .int .u16 (x0 7), .int .u16 (x1 0), .int .u16 (x1 1), .int .u16 (x1 2), .int .u16 (x1 3), .int .u16 (x1 4), .int .u16 (x1 5), .int .u16 (x1 6), .int .u16 (x1 7)] 42)) w.heap.size 42 #[.int .u16 (x0 0), .int .u16 (x0 1), .int .u16 (x0 2), .int .u16 (x0 3), .int .u16 (x0 4), .int .u16 (x0 5), .int .u16 (x0 6), .int .u16 (x0 7), .int .u16 (x1 0), .int .u16 (x1 1), .int .u16 (x1 2), .int .u16 (x1 3), .int .u16 (x1 4), .int .u16 (x1 5), .int .u16 (x1 6), .int .u16 (x1 7)]) := Blk.new _ _ _
  have hE0 : Hid (Ext w (w.alloc (.cells #[.int .u16 (x0 0), .int .u16 (x0 1), .int .u16 (x0 2), .int .u16 (x0 3), .int .u16 (x0 4), .int .u16 (x0 5), .int .u16 (x0 6), .int .u16 (x0 7), .int .u16 (x1 0), .int .u16 (x1 1), .int .u16 (x1 2), .int .u16 (x1 3), .int .u16 (x1 4), .int .u16 (x1 5), .int .u16 (x1 6), .int .u16 (x1 7)] 42))) := (Ext.refl w).alloc _
  replace hx0 := hide hx0
  replace hx1 := hide hx1
  go_enter Try.func4, Try.ntmps4
  go_wp2_with fail
  generalize (w.alloc (.cells #[.int .u16 (x0 0), .int .u16 (x0 1), .int .u16 (x0 2), .int .u16 (x0 3), .int .u16 (x0 4), .int .u16 (x0 5), .int .u16 (x0 6), .int .u16 (x0 7), .int .u16 (x1 0), .int .u16 (x1 1), .int .u16 (x1 2), .int .u16 (x1 3), .int .u16 (x1 4), .int .u16 (x1 5), .int .u16 (x1 6), .int .u16 (x1 7)] 42)) = wa at *
  refine (examples_any _).mono ?_
  rintro e wq ⟨rfl, hE1⟩
  have hEq := hide (hE0.out.trans hE1)
  replace hb3 := hide (hb3.out.ext hE1)
  clear hE1 hE0
  have hsq : w.heap.size ≤ wq.heap.size := hEq.out.size
  go_upto_region 4 with (fail)
  obtain ⟨B3, hB3⟩ : ∃ B3, B3 = w.heap.size := ⟨_, rfl⟩
  rw [← hB3] at hb3 ⊢
  replace hB3 := hide hB3
  refine RegF.wp_region_v (by kernel_rfl) [[], [(13, 0)], [(14, 1)], [], [(16, 3)], [(17, 4)], [], []] [[], [0], [0, 1], [], [3], [0, 1, 2, 3, 4], [], []]
    [fun v _ => v = .pointer (some ⟨B3, 0, none⟩), fun v _ => v = .agg #[.int .u16 (x0 0), .int .u16 (x0 1), .int .u16 (x0 2), .int .u16 (x0 3), .int .u16 (x0 4), .int .u16 (x0 5), .int .u16 (x0 6), .int .u16 (x0 7)], fun v _ => v = .agg #[.int .i64 (monoOf x0 0), .int .i64 (monoOf x0 1), .int .i64 (monoOf x0 2), .int .i64 (monoOf x0 3), .int .i64 (monoOf x0 4), .int .i64 (monoOf x0 5), .int .i64 (monoOf x0 6), .int .i64 (monoOf x0 7)], fun v _ => v = .pointer (some ⟨B3, 8, none⟩), fun v _ => v = .agg #[.int .u16 (x1 0), .int .u16 (x1 1), .int .u16 (x1 2), .int .u16 (x1 3), .int .u16 (x1 4), .int .u16 (x1 5), .int .u16 (x1 6), .int .u16 (x1 7)], fun v _ => v = .agg #[.int .i64 (monoOf x1 0), .int .i64 (monoOf x1 1), .int .i64 (monoOf x1 2), .int .i64 (monoOf x1 3), .int .i64 (monoOf x1 4), .int .i64 (monoOf x1 5), .int .i64 (monoOf x1 6), .int .i64 (monoOf x1 7)], NewM wq.heap.size, NewM wq.heap.size]
    rfl (by kernel_rfl) (by kernel_rfl) ?stab ?steps ?fin
  case stab => exact .cons (Stab.eq _) (.cons (Stab.eq _) (.cons (Stab.eq _) (.cons (Stab.eq _) (.cons (Stab.eq _) (.cons (Stab.eq _) (.cons (fun _ _ _ he h => h.ext he) (.cons (fun _ _ _ he h => h.ext he) .nil)))))))
  case steps =>
    refine .cons ?s0 (.cons ?s1 (.cons ?s2 (.cons ?s3 (.cons ?s4 (.cons ?s5 (.cons ?s6 (.cons ?s7 .nil)))))))
    case s0 =>
      intro w' ev hE hk ha hc hf
      have e2 : ev (.tmp 2) = .pointer (some ⟨B3, 0, none⟩) := ha 2 (by decide)
      exact RegF.opStep_val rfl (by simp [execOp, e2, hc, go_sem]) rfl
    case s1 =>
      intro w' ev hE hk ha hc hf
      have e13 : ev (.tmp 13) = .pointer (some ⟨B3, 0, none⟩) := hk.1 _ rfl
      have c0 : w'.cell? ⟨B3, 0, none⟩ = some (.int .u16 (x0 0)) := hE.cellv (hb3.out.cell 0)
      have c1 : w'.cell? ⟨B3, 1, none⟩ = some (.int .u16 (x0 1)) := hE.cellv (hb3.out.cell 1)
      have c2 : w'.cell? ⟨B3, 2, none⟩ = some (.int .u16 (x0 2)) := hE.cellv (hb3.out.cell 2)
      have c3 : w'.cell? ⟨B3, 3, none⟩ = some (.int .u16 (x0 3)) := hE.cellv (hb3.out.cell 3)
      have c4 : w'.cell? ⟨B3, 4, none⟩ = some (.int .u16 (x0 4)) := hE.cellv (hb3.out.cell 4)
      have c5 : w'.cell? ⟨B3, 5, none⟩ = some (.int .u16 (x0 5)) := hE.cellv (hb3.out.cell 5)
      have c6 : w'.cell? ⟨B3, 6, none⟩ = some (.int .u16 (x0 6)) := hE.cellv (hb3.out.cell 6)
      have c7 : w'.cell? ⟨B3, 7, none⟩ = some (.int .u16 (x0 7)) := hE.cellv (hb3.out.cell 7)
      exact RegF.opStep_val rfl (by simp [execOp, e13, c0, c1, c2, c3, c4, c5, c6, c7, go_sem]) rfl
    case s2 =>
      intro w' ev hE hk ha hc hf
      have e14 : ev (.tmp 14) = .agg #[.int .u16 (x0 0), .int .u16 (x0 1), .int .u16 (x0 2), .int .u16 (x0 3), .int .u16 (x0 4), .int .u16 (x0 5), .int .u16 (x0 6), .int .u16 (x0 7)] := hk.1 _ rfl
      refine RegF.opStep_call rfl (by simp [execOp, resolve, invoke, hf, e14, go_sem]) (mono_any x0 _ hx0.out) ?_
      rintro e w1 ⟨rfl, hE1⟩
      exact ⟨_, rfl, hE1, rfl⟩
    case s3 =>
      intro w' ev hE hk ha hc hf
      have e2 : ev (.tmp 2) = .pointer (some ⟨B3, 0, none⟩) := ha 2 (by decide)
      exact RegF.opStep_val rfl (by simp [execOp, e2, hc, go_sem]) rfl
    case s4 =>
      intro w' ev hE hk ha hc hf
      have e16 : ev (.tmp 16) = .pointer (some ⟨B3, 8, none⟩) := hk.1 _ rfl
      have c0 : w'.cell? ⟨B3, 8, none⟩ = some (.int .u16 (x1 0)) := hE.cellv (hb3.out.cell 8)
      have c1 : w'.cell? ⟨B3, 9, none⟩ = some (.int .u16 (x1 1)) := hE.cellv (hb3.out.cell 9)
      have c2 : w'.cell? ⟨B3, 10, none⟩ = some (.int .u16 (x1 2)) := hE.cellv (hb3.out.cell 10)
      have c3 : w'.cell? ⟨B3, 11, none⟩ = some (.int .u16 (x1 3)) := hE.cellv (hb3.out.cell 11)
      have c4 : w'.cell? ⟨B3, 12, none⟩ = some (.int .u16 (x1 4)) := hE.cellv (hb3.out.cell 12)
      have c5 : w'.cell? ⟨B3, 13, none⟩ = some (.int .u16 (x1 5)) := hE.cellv (hb3.out.cell 13)
      have c6 : w'.cell? ⟨B3, 14, none⟩ = some (.int .u16 (x1 6)) := hE.cellv (hb3.out.cell 14)
      have c7 : w'.cell? ⟨B3, 15, none⟩ = some (.int .u16 (x1 7)) := hE.cellv (hb3.out.cell 15)
      exact RegF.opStep_val rfl (by simp [execOp, e16, c0, c1, c2, c3, c4, c5, c6, c7, go_sem]) rfl
    case s5 =>
      intro w' ev hE hk ha hc hf
      have e17 : ev (.tmp 17) = .agg #[.int .u16 (x1 0), .int .u16 (x1 1), .int .u16 (x1 2), .int .u16 (x1 3), .int .u16 (x1 4), .int .u16 (x1 5), .int .u16 (x1 6), .int .u16 (x1 7)] := hk.1 _ rfl
      refine RegF.opStep_call rfl (by simp [execOp, resolve, invoke, hf, e17, go_sem]) (mono_any x1 _ hx1.out) ?_
      rintro e w1 ⟨rfl, hE1⟩
      exact ⟨_, rfl, hE1, rfl⟩
    case s6 =>
      intro w' ev hE hk ha hc hf
      exact RegF.opStep_new (ob := .cells #[.int .i64 0, .int .i64 0, .int .i64 0, .int .i64 0, .int .i64 0, .int .i64 0, .int .i64 0, .int .i64 0] 35) (by simp [execOp, go_sem]) ⟨_, rfl, hE.size, Blk.new _ _ _⟩
    case s7 =>
      intro w' ev hE hk ha hc hf
      exact RegF.opStep_new (ob := .cells #[.int .i64 0, .int .i64 0, .int .i64 0, .int .i64 0, .int .i64 0, .int .i64 0, .int .i64 0, .int .i64 0] 35) (by simp [execOp, go_sem]) ⟨_, rfl, hE.size, Blk.new _ _ _⟩
  case fin =>
    intro gf w' hE hF hap
    obtain ⟨B6, e6, s6, b6⟩ := hF 6 _ rfl
    obtain ⟨B7, e7, s7, b7⟩ := hF 7 _ rfl
    have n67 : B6 ≠ B7 := fun h => hap 6 7 _ _ (by decide) (by decide) rfl rfl rfl rfl (by decide) (by rw [e6, e7, h])
    simp only [List.length_cons, List.length_nil, Nat.reduceAdd, List.drop_succ_cons, List.drop_zero, List.take_succ_cons, List.take_zero, putG, Act.put, List.setIfInBounds_toArray, List.set_cons_succ, List.set_cons_zero, e6, e7, hF 2 _ rfl, hF 5 _ rfl]
    have r8 := hide (run_store_mono b6 (monoOf x0))
    have b6' := putM_blk b6 (monoOf x0)
    have b7' := putM_far b7 n67.symm (monoOf x0)
    have r9 := hide (run_store_mono b7' (monoOf x1))
    have hb6 := hide (putM_far b6' n67 (monoOf x1))
    have hb7 := hide (putM_blk b7' (monoOf x1))
    have hEw : Hid (Ext w (putM (putM w' B6 (monoOf x0)) B7 (monoOf x1))) := putM_ext (putM_ext (hEq.out.trans ((Ext.refl _).drew.trans hE)) (by omega) _) (by omega) _
    clear hF hap e6 e7 b6 b7 b6' b7' hE hb3
    go_upto_region 5 with (refine wpList_store_go rfl rfl rfl r8.out rfl rfl ?_; refine wpList_store_go rfl rfl rfl r9.out rfl rfl ?_)
    clear r8 r9
    generalize (putM (putM w' B6 (monoOf x0)) B7 (monoOf x1)) = w1 at *
    have hB7w : w.heap.size ≤ B7 := by omega
    have ha := hide (monoOf_in hx0.out)
    have hb := hide (monoOf_in hx1.out)
    clear hsq hx0 hx1 s6 s7 hEq hB3
    generalize monoOf x0 = a at *
    generalize monoOf x1 = b at *
    have ha6 : Hid (In8 a (-1000000) 1000000) := ha.out.mono (by omega) (by omega)
    have hin0 : Hid (∀ r ∈ ([] : List (Nat → Int)), In8 r (-1000) 1000) := fun r h => by cases h
    have hin1 := hide ones_in1
    have hin2 := hide revRows_in
    cases same with
    | false =>
      go_upto_region 7 with (fail)
      have hdb : Hid (b 7 ≤ 65535 → In8 b (-1000000) 1000000) := hide (fun _ => hb.out.mono (by omega) (by omega))
      clear ha hb n67 hB7w
      generalize b = d at *
      have q7 : w1.cell? ⟨B7, 7, none⟩ = some (.int .i64 (d 7)) := hb7.out.cell 7
      by_cases hbig : 65535 < d 7
      · have hbg : decide (65535 < d 7) = true := by simpa using hbig
        generalize d 7 = d7 at *
        go_wp2
        go_ret
        exact ⟨rfl, hEw.out⟩
      · have hbg : decide (65535 < d 7) = false := by simpa using hbig
        have hd6 : Hid (In8 d (-1000000) 1000000) := hide (hdb.out (by omega))
        have ocg := hide (oCmp_graded a d)
        have ocr := hide (oCmp_rev a d)
        clear hdb
        generalize d 7 = d7 at *
        go_upto_region 9 with (fail)
        clear q7 hbg hbig
        refine wp_region_v (by kernel_rfl) [[], [], [(34, 0), (35, 1)], [], [], [(37, 3), (38, 4)]] [[], [], [0, 1], [], [], [0, 1, 2, 3, 4]]
          [fun v _ => v = .agg #[.int .i64 (a 0), .int .i64 (a 1), .int .i64 (a 2), .int .i64 (a 3), .int .i64 (a 4), .int .i64 (a 5), .int .i64 (a 6), .int .i64 (a 7)], fun v _ => v = .agg #[.int .i64 (d 0), .int .i64 (d 1), .int .i64 (d 2), .int .i64 (d 3), .int .i64 (d 4), .int .i64 (d 5), .int .i64 (d 6), .int .i64 (d 7)], fun v _ => v = .int .i64 (lex8 a d), fun v _ => v = .agg #[.int .i64 (a 0), .int .i64 (a 1), .int .i64 (a 2), .int .i64 (a 3), .int .i64 (a 4), .int .i64 (a 5), .int .i64 (a 6), .int .i64 (a 7)], fun v _ => v = .agg #[.int .i64 (d 0), .int .i64 (d 1), .int .i64 (d 2), .int .i64 (d 3), .int .i64 (d 4), .int .i64 (d 5), .int .i64 (d 6), .int .i64 (d 7)], fun v _ => v = .int .i64 (lastTo a d 8)]
          rfl (by kernel_rfl) (by kernel_rfl) ?stab ?steps ?fin
        case stab => exact .cons (Stab.eq _) (.cons (Stab.eq _) (.cons (Stab.eq _) (.cons (Stab.eq _) (.cons (Stab.eq _) (.cons (Stab.eq _) .nil)))))
        case steps =>
          refine .cons ?s0 (.cons ?s1 (.cons ?s2 (.cons ?s3 (.cons ?s4 (.cons ?s5 .nil)))))
          case s0 =>
            intro w' ev hE hk ha hc hf
            have e6 : ev (.tmp 6) = .pointer (some ⟨B6, 0, none⟩) := ha 6 (by decide)
            have c0 : w'.cell? ⟨B6, 0, none⟩ = some (.int .i64 (a 0)) := hE.cellv (hb6.out.cell 0)
            have c1 : w'.cell? ⟨B6, 1, none⟩ = some (.int .i64 (a 1)) := hE.cellv (hb6.out.cell 1)
            have c2 : w'.cell? ⟨B6, 2, none⟩ = some (.int .i64 (a 2)) := hE.cellv (hb6.out.cell 2)
            have c3 : w'.cell? ⟨B6, 3, none⟩ = some (.int .i64 (a 3)) := hE.cellv (hb6.out.cell 3)
            have c4 : w'.cell? ⟨B6, 4, none⟩ = some (.int .i64 (a 4)) := hE.cellv (hb6.out.cell 4)
            have c5 : w'.cell? ⟨B6, 5, none⟩ = some (.int .i64 (a 5)) := hE.cellv (hb6.out.cell 5)
            have c6 : w'.cell? ⟨B6, 6, none⟩ = some (.int .i64 (a 6)) := hE.cellv (hb6.out.cell 6)
            have c7 : w'.cell? ⟨B6, 7, none⟩ = some (.int .i64 (a 7)) := hE.cellv (hb6.out.cell 7)
            exact opStep_val (by simp [execOp, e6, c0, c1, c2, c3, c4, c5, c6, c7, go_sem]) rfl
          case s1 =>
            intro w' ev hE hk ha hc hf
            have e7 : ev (.tmp 7) = .pointer (some ⟨B7, 0, none⟩) := ha 7 (by decide)
            have c0 : w'.cell? ⟨B7, 0, none⟩ = some (.int .i64 (d 0)) := hE.cellv (hb7.out.cell 0)
            have c1 : w'.cell? ⟨B7, 1, none⟩ = some (.int .i64 (d 1)) := hE.cellv (hb7.out.cell 1)
            have c2 : w'.cell? ⟨B7, 2, none⟩ = some (.int .i64 (d 2)) := hE.cellv (hb7.out.cell 2)
            have c3 : w'.cell? ⟨B7, 3, none⟩ = some (.int .i64 (d 3)) := hE.cellv (hb7.out.cell 3)
            have c4 : w'.cell? ⟨B7, 4, none⟩ = some (.int .i64 (d 4)) := hE.cellv (hb7.out.cell 4)
            have c5 : w'.cell? ⟨B7, 5, none⟩ = some (.int .i64 (d 5)) := hE.cellv (hb7.out.cell 5)
            have c6 : w'.cell? ⟨B7, 6, none⟩ = some (.int .i64 (d 6)) := hE.cellv (hb7.out.cell 6)
            have c7 : w'.cell? ⟨B7, 7, none⟩ = some (.int .i64 (d 7)) := hE.cellv (hb7.out.cell 7)
            exact opStep_val (by simp [execOp, e7, c0, c1, c2, c3, c4, c5, c6, c7, go_sem]) rfl
          case s2 =>
            intro w' ev hE hk ha hc hf
            have e34 : ev (.tmp 34) = .agg #[.int .i64 (a 0), .int .i64 (a 1), .int .i64 (a 2), .int .i64 (a 3), .int .i64 (a 4), .int .i64 (a 5), .int .i64 (a 6), .int .i64 (a 7)] := hk.1 _ rfl
            have e35 : ev (.tmp 35) = .agg #[.int .i64 (d 0), .int .i64 (d 1), .int .i64 (d 2), .int .i64 (d 3), .int .i64 (d 4), .int .i64 (d 5), .int .i64 (d 6), .int .i64 (d 7)] := hk.2.1 _ rfl
            refine opStep_call (by simp [execOp, resolve, invoke, hf, e34, e35, go_sem]) (mCmp_any a d _) ?_
            rintro e w1 ⟨rfl, hE1⟩
            exact ⟨_, rfl, hE1, rfl⟩
          case s3 =>
            intro w' ev hE hk ha hc hf
            have e6 : ev (.tmp 6) = .pointer (some ⟨B6, 0, none⟩) := ha 6 (by decide)
            have c0 : w'.cell? ⟨B6, 0, none⟩ = some (.int .i64 (a 0)) := hE.cellv (hb6.out.cell 0)
            have c1 : w'.cell? ⟨B6, 1, none⟩ = some (.int .i64 (a 1)) := hE.cellv (hb6.out.cell 1)
            have c2 : w'.cell? ⟨B6, 2, none⟩ = some (.int .i64 (a 2)) := hE.cellv (hb6.out.cell 2)
            have c3 : w'.cell? ⟨B6, 3, none⟩ = some (.int .i64 (a 3)) := hE.cellv (hb6.out.cell 3)
            have c4 : w'.cell? ⟨B6, 4, none⟩ = some (.int .i64 (a 4)) := hE.cellv (hb6.out.cell 4)
            have c5 : w'.cell? ⟨B6, 5, none⟩ = some (.int .i64 (a 5)) := hE.cellv (hb6.out.cell 5)
            have c6 : w'.cell? ⟨B6, 6, none⟩ = some (.int .i64 (a 6)) := hE.cellv (hb6.out.cell 6)
            have c7 : w'.cell? ⟨B6, 7, none⟩ = some (.int .i64 (a 7)) := hE.cellv (hb6.out.cell 7)
            exact opStep_val (by simp [execOp, e6, c0, c1, c2, c3, c4, c5, c6, c7, go_sem]) rfl
          case s4 =>
            intro w' ev hE hk ha hc hf
            have e7 : ev (.tmp 7) = .pointer (some ⟨B7, 0, none⟩) := ha 7 (by decide)
            have c0 : w'.cell? ⟨B7, 0, none⟩ = some (.int .i64 (d 0)) := hE.cellv (hb7.out.cell 0)
            have c1 : w'.cell? ⟨B7, 1, none⟩ = some (.int .i64 (d 1)) := hE.cellv (hb7.out.cell 1)
            have c2 : w'.cell? ⟨B7, 2, none⟩ = some (.int .i64 (d 2)) := hE.cellv (hb7.out.cell 2)
            have c3 : w'.cell? ⟨B7, 3, none⟩ = some (.int .i64 (d 3)) := hE.cellv (hb7.out.cell 3)
            have c4 : w'.cell? ⟨B7, 4, none⟩ = some (.int .i64 (d 4)) := hE.cellv (hb7.out.cell 4)
            have c5 : w'.cell? ⟨B7, 5, none⟩ = some (.int .i64 (d 5)) := hE.cellv (hb7.out.cell 5)
            have c6 : w'.cell? ⟨B7, 6, none⟩ = some (.int .i64 (d 6)) := hE.cellv (hb7.out.cell 6)
            have c7 : w'.cell? ⟨B7, 7, none⟩ = some (.int .i64 (d 7)) := hE.cellv (hb7.out.cell 7)
            exact opStep_val (by simp [execOp, e7, c0, c1, c2, c3, c4, c5, c6, c7, go_sem]) rfl
          case s5 =>
            intro w' ev hE hk ha hc hf
            have e37 : ev (.tmp 37) = .agg #[.int .i64 (a 0), .int .i64 (a 1), .int .i64 (a 2), .int .i64 (a 3), .int .i64 (a 4), .int .i64 (a 5), .int .i64 (a 6), .int .i64 (a 7)] := hk.1 _ rfl
            have e38 : ev (.tmp 38) = .agg #[.int .i64 (d 0), .int .i64 (d 1), .int .i64 (d 2), .int .i64 (d 3), .int .i64 (d 4), .int .i64 (d 5), .int .i64 (d 6), .int .i64 (d 7)] := hk.2.1 _ rfl
            refine opStep_call (by simp [execOp, resolve, invoke, hf, e37, e38, go_sem]) (last_any a d _) ?_
            rintro e w1 ⟨rfl, hE1⟩
            exact ⟨_, rfl, hE1, rfl⟩
        case fin =>
          intro g w' hE hF
          have e2 := hF 2 _ rfl
          have e5 := hF 5 _ rfl
          simp only [List.length_cons, List.length_nil, Nat.reduceAdd, List.drop_succ_cons, List.drop_zero, List.take_succ_cons, List.take_zero, putG, Act.put, List.setIfInBounds_toArray, List.set_cons_succ, List.set_cons_zero, e2, e5]
          replace hE := hide ((Ext.refl _).drew.trans hE)
          replace hb6 := hide (hb6.out.ext hE.out)
          replace hb7 := hide (hb7.out.ext hE.out)
          replace hEw := hide (hEw.out.trans hE.out)
          clear hF hE
          clear e2 e5
          rcases Int.lt_trichotomy (sumTo a 8) (sumTo d 8) with hlt | hlt | hlt
          · have hgr : Hid (oCmp [onesOf 255] a d = -1) := hide (by rw [ocg.out, if_pos hlt])
            have hrv : Hid (oCmp revRows a d = -1) := hide (by rw [ocr.out, if_pos hlt])
            have h1 : decide (sumTo a 8 < sumTo d 8) = true := by simpa using hlt
            have h2 : decide (sumTo d 8 < sumTo a 8) = false := by simp; omega
            have h3 : sumTo a 8 < sumTo d 8 := hlt
            have h4 : ¬ sumTo d 8 < sumTo a 8 := by omega
            replace h1 := hide h1
            replace h2 := hide h2
            clear ocg ocr hlt
            go_upto_region 10 with (fail)
            refine wp_region_v (by kernel_rfl) [[], [(40, 0)], [], [(42, 2)], [(41, 1), (43, 3)]] [[], [0], [], [0, 1, 2], [0, 1, 2, 3]]
              [fun v _ => v = .agg #[.int .i64 (a 0), .int .i64 (a 1), .int .i64 (a 2), .int .i64 (a 3), .int .i64 (a 4), .int .i64 (a 5), .int .i64 (a 6), .int .i64 (a 7)], fun v _ => v = .int .i64 (sumTo a 8), fun v _ => v = .agg #[.int .i64 (d 0), .int .i64 (d 1), .int .i64 (d 2), .int .i64 (d 3), .int .i64 (d 4), .int .i64 (d 5), .int .i64 (d 6), .int .i64 (d 7)], fun v _ => v = .int .i64 (sumTo d 8), fun v _ => v = .bool true]
              rfl (by kernel_rfl) (by kernel_rfl) ?stab ?steps ?fin
            case stab => exact .cons (Stab.eq _) (.cons (Stab.eq _) (.cons (Stab.eq _) (.cons (Stab.eq _) (.cons (Stab.eq _) .nil))))
            case steps =>
              refine .cons ?s0 (.cons ?s1 (.cons ?s2 (.cons ?s3 (.cons ?s4 .nil))))
              case s0 =>
                intro w' ev hE hk ha hc hf
                have e6 : ev (.tmp 6) = .pointer (some ⟨B6, 0, none⟩) := ha 6 (by decide)
                have c0 : w'.cell? ⟨B6, 0, none⟩ = some (.int .i64 (a 0)) := hE.cellv (hb6.out.cell 0)
                have c1 : w'.cell? ⟨B6, 1, none⟩ = some (.int .i64 (a 1)) := hE.cellv (hb6.out.cell 1)
                have c2 : w'.cell? ⟨B6, 2, none⟩ = some (.int .i64 (a 2)) := hE.cellv (hb6.out.cell 2)
                have c3 : w'.cell? ⟨B6, 3, none⟩ = some (.int .i64 (a 3)) := hE.cellv (hb6.out.cell 3)
                have c4 : w'.cell? ⟨B6, 4, none⟩ = some (.int .i64 (a 4)) := hE.cellv (hb6.out.cell 4)
                have c5 : w'.cell? ⟨B6, 5, none⟩ = some (.int .i64 (a 5)) := hE.cellv (hb6.out.cell 5)
                have c6 : w'.cell? ⟨B6, 6, none⟩ = some (.int .i64 (a 6)) := hE.cellv (hb6.out.cell 6)
                have c7 : w'.cell? ⟨B6, 7, none⟩ = some (.int .i64 (a 7)) := hE.cellv (hb6.out.cell 7)
                exact opStep_val (by simp [execOp, e6, c0, c1, c2, c3, c4, c5, c6, c7, go_sem]) rfl
              case s1 =>
                intro w' ev hE hk ha hc hf
                have e40 : ev (.tmp 40) = .agg #[.int .i64 (a 0), .int .i64 (a 1), .int .i64 (a 2), .int .i64 (a 3), .int .i64 (a 4), .int .i64 (a 5), .int .i64 (a 6), .int .i64 (a 7)] := hk.1 _ rfl
                refine opStep_call (by simp [execOp, resolve, invoke, hf, e40, go_sem]) (Degree_any a _ ha6.out) ?_
                rintro e w1 ⟨rfl, hE1⟩
                exact ⟨_, rfl, hE1, rfl⟩
              case s2 =>
                intro w' ev hE hk ha hc hf
                have e7 : ev (.tmp 7) = .pointer (some ⟨B7, 0, none⟩) := ha 7 (by decide)
                have c0 : w'.cell? ⟨B7, 0, none⟩ = some (.int .i64 (d 0)) := hE.cellv (hb7.out.cell 0)
                have c1 : w'.cell? ⟨B7, 1, none⟩ = some (.int .i64 (d 1)) := hE.cellv (hb7.out.cell 1)
                have c2 : w'.cell? ⟨B7, 2, none⟩ = some (.int .i64 (d 2)) := hE.cellv (hb7.out.cell 2)
                have c3 : w'.cell? ⟨B7, 3, none⟩ = some (.int .i64 (d 3)) := hE.cellv (hb7.out.cell 3)
                have c4 : w'.cell? ⟨B7, 4, none⟩ = some (.int .i64 (d 4)) := hE.cellv (hb7.out.cell 4)
                have c5 : w'.cell? ⟨B7, 5, none⟩ = some (.int .i64 (d 5)) := hE.cellv (hb7.out.cell 5)
                have c6 : w'.cell? ⟨B7, 6, none⟩ = some (.int .i64 (d 6)) := hE.cellv (hb7.out.cell 6)
                have c7 : w'.cell? ⟨B7, 7, none⟩ = some (.int .i64 (d 7)) := hE.cellv (hb7.out.cell 7)
                exact opStep_val (by simp [execOp, e7, c0, c1, c2, c3, c4, c5, c6, c7, go_sem]) rfl
              case s3 =>
                intro w' ev hE hk ha hc hf
                have e42 : ev (.tmp 42) = .agg #[.int .i64 (d 0), .int .i64 (d 1), .int .i64 (d 2), .int .i64 (d 3), .int .i64 (d 4), .int .i64 (d 5), .int .i64 (d 6), .int .i64 (d 7)] := hk.1 _ rfl
                refine opStep_call (by simp [execOp, resolve, invoke, hf, e42, go_sem]) (Degree_any d _ hd6.out) ?_
                rintro e w1 ⟨rfl, hE1⟩
                exact ⟨_, rfl, hE1, rfl⟩
              case s4 =>
                intro w' ev hE hk ha hc hf
                have e41 : ev (.tmp 41) = .int .i64 (sumTo a 8) := hk.1 _ rfl
                have e43 : ev (.tmp 43) = .int .i64 (sumTo d 8) := hk.2.1 _ rfl
                exact opStep_val (by simp [execOp, e41, e43, h1.out, h3, go_sem]) rfl
            case fin =>
              intro g w' hE hF
              have e4 := hF 4 _ rfl
              simp only [List.length_cons, List.length_nil, Nat.reduceAdd, List.drop_succ_cons, List.drop_zero, List.take_succ_cons, List.take_zero, putG, Act.put, List.setIfInBounds_toArray, List.set_cons_succ, List.set_cons_zero, e4]
              replace hE := hide ((Ext.refl _).drew.trans hE)
              replace hb6 := hide (hb6.out.ext hE.out)
              replace hb7 := hide (hb7.out.ext hE.out)
              replace hEw := hide (hEw.out.trans hE.out)
              clear hF hE
              clear e4
              go_upto_region 12 with (fail)
              refine wp_region_v (by kernel_rfl) [[], [(45, 0)], [], [(47, 2)], [(46, 1), (48, 3)]] [[], [0], [], [0, 1, 2], [0, 1, 2, 3]]
                [fun v _ => v = .agg #[.int .i64 (a 0), .int .i64 (a 1), .int .i64 (a 2), .int .i64 (a 3), .int .i64 (a 4), .int .i64 (a 5), .int .i64 (a 6), .int .i64 (a 7)], fun v _ => v = .int .i64 (sumTo a 8), fun v _ => v = .agg #[.int .i64 (d 0), .int .i64 (d 1), .int .i64 (d 2), .int .i64 (d 3), .int .i64 (d 4), .int .i64 (d 5), .int .i64 (d 6), .int .i64 (d 7)], fun v _ => v = .int .i64 (sumTo d 8), fun v _ => v = .bool false]
                rfl (by kernel_rfl) (by kernel_rfl) ?stab ?steps ?fin
              case stab => exact .cons (Stab.eq _) (.cons (Stab.eq _) (.cons (Stab.eq _) (.cons (Stab.eq _) (.cons (Stab.eq _) .nil))))
              case steps =>
                refine .cons ?s0 (.cons ?s1 (.cons ?s2 (.cons ?s3 (.cons ?s4 .nil))))
                case s0 =>
                  intro w' ev hE hk ha hc hf
                  have e6 : ev (.tmp 6) = .pointer (some ⟨B6, 0, none⟩) := ha 6 (by decide)
                  have c0 : w'.cell? ⟨B6, 0, none⟩ = some (.int .i64 (a 0)) := hE.cellv (hb6.out.cell 0)
                  have c1 : w'.cell? ⟨B6, 1, none⟩ = some (.int .i64 (a 1)) := hE.cellv (hb6.out.cell 1)
                  have c2 : w'.cell? ⟨B6, 2, none⟩ = some (.int .i64 (a 2)) := hE.cellv (hb6.out.cell 2)
                  have c3 : w'.cell? ⟨B6, 3, none⟩ = some (.int .i64 (a 3)) := hE.cellv (hb6.out.cell 3)
                  have c4 : w'.cell? ⟨B6, 4, none⟩ = some (.int .i64 (a 4)) := hE.cellv (hb6.out.cell 4)
                  have c5 : w'.cell? ⟨B6, 5, none⟩ = some (.int .i64 (a 5)) := hE.cellv (hb6.out.cell 5)
                  have c6 : w'.cell? ⟨B6, 6, none⟩ = some (.int .i64 (a 6)) := hE.cellv (hb6.out.cell 6)
                  have c7 : w'.cell? ⟨B6, 7, none⟩ = some (.int .i64 (a 7)) := hE.cellv (hb6.out.cell 7)
                  exact opStep_val (by simp [execOp, e6, c0, c1, c2, c3, c4, c5, c6, c7, go_sem]) rfl
                case s1 =>
                  intro w' ev hE hk ha hc hf
                  have e45 : ev (.tmp 45) = .agg #[.int .i64 (a 0), .int .i64 (a 1), .int .i64 (a 2), .int .i64 (a 3), .int .i64 (a 4), .int .i64 (a 5), .int .i64 (a 6), .int .i64 (a 7)] := hk.1 _ rfl
                  refine opStep_call (by simp [execOp, resolve, invoke, hf, e45, go_sem]) (Degree_any a _ ha6.out) ?_
                  rintro e w1 ⟨rfl, hE1⟩
                  exact ⟨_, rfl, hE1, rfl⟩
                case s2 =>
                  intro w' ev hE hk ha hc hf
                  have e7 : ev (.tmp 7) = .pointer (some ⟨B7, 0, none⟩) := ha 7 (by decide)
                  have c0 : w'.cell? ⟨B7, 0, none⟩ = some (.int .i64 (d 0)) := hE.cellv (hb7.out.cell 0)
                  have c1 : w'.cell? ⟨B7, 1, none⟩ = some (.int .i64 (d 1)) := hE.cellv (hb7.out.cell 1)
                  have c2 : w'.cell? ⟨B7, 2, none⟩ = some (.int .i64 (d 2)) := hE.cellv (hb7.out.cell 2)
                  have c3 : w'.cell? ⟨B7, 3, none⟩ = some (.int .i64 (d 3)) := hE.cellv (hb7.out.cell 3)
                  have c4 : w'.cell? ⟨B7, 4, none⟩ = some (.int .i64 (d 4)) := hE.cellv (hb7.out.cell 4)
                  have c5 : w'.cell? ⟨B7, 5, none⟩ = some (.int .i64 (d 5)) := hE.cellv (hb7.out.cell 5)
                  have c6 : w'.cell? ⟨B7, 6, none⟩ = some (.int .i64 (d 6)) := hE.cellv (hb7.out.cell 6)
                  have c7 : w'.cell? ⟨B7, 7, none⟩ = some (.int .i64 (d 7)) := hE.cellv (hb7.out.cell 7)
                  exact opStep_val (by simp [execOp, e7, c0, c1, c2, c3, c4, c5, c6, c7, go_sem]) rfl
                case s3 =>
                  intro w' ev hE hk ha hc hf
                  have e47 : ev (.tmp 47) = .agg #[.int .i64 (d 0), .int .i64 (d 1), .int .i64 (d 2), .int .i64 (d 3), .int .i64 (d 4), .int .i64 (d 5), .int .i64 (d 6), .int .i64 (d 7)] := hk.1 _ rfl
                  refine opStep_call (by simp [execOp, resolve, invoke, hf, e47, go_sem]) (Degree_any d _ hd6.out) ?_
                  rintro e w1 ⟨rfl, hE1⟩
                  exact ⟨_, rfl, hE1, rfl⟩
                case s4 =>
                  intro w' ev hE hk ha hc hf
                  have e46 : ev (.tmp 46) = .int .i64 (sumTo a 8) := hk.1 _ rfl
                  have e48 : ev (.tmp 48) = .int .i64 (sumTo d 8) := hk.2.1 _ rfl
                  exact opStep_val (by simp [execOp, e46, e48, h2.out, h4, go_sem]) rfl
              case fin =>
                intro g w' hE hF
                have e4 := hF 4 _ rfl
                simp only [List.length_cons, List.length_nil, Nat.reduceAdd, List.drop_succ_cons, List.drop_zero, List.take_succ_cons, List.take_zero, putG, Act.put, List.setIfInBounds_toArray, List.set_cons_succ, List.set_cons_zero, e4]
                replace hE := hide ((Ext.refl _).drew.trans hE)
                replace hb6 := hide (hb6.out.ext hE.out)
                replace hb7 := hide (hb7.out.ext hE.out)
                replace hEw := hide (hEw.out.trans hE.out)
                clear hF hE
                clear e4
                go_upto_region 14 with (fail)
                refine wp_region_v (by kernel_rfl) [[], [], [], [(50, 0), (51, 1), (52, 2)], [], [], [(54, 4), (55, 5)], [(53, 3), (56, 6)], [(57, 7)], [], [], [], [(59, 9), (60, 10), (61, 11)], [], [(62, 12), (63, 13)], [(58, 8), (64, 14)], [(65, 15)], [], [], [], [(67, 17), (68, 18), (69, 19)], [], [(70, 20), (71, 21)], [(66, 16), (72, 22)], [(73, 23)], [], [(74, 24), (75, 25)]] [[], [], [], [0, 1, 2], [], [], [0, 1, 2, 3, 4, 5], [0, 1, 2, 3, 4, 5, 6], [0, 1, 2, 3, 4, 5, 6, 7], [0, 1, 2, 3, 4, 5, 6, 7, 8], [0, 1, 2, 3, 4, 5, 6, 7, 8], [0, 1, 2, 3, 4, 5, 6, 7, 8], [0, 1, 2, 3, 4, 5, 6, 7, 8, 9, 10, 11], [0, 1, 2, 3, 4, 5, 6, 7, 8], [0, 1, 2, 3, 4, 5, 6, 7, 8, 9, 10, 11, 12, 13], [0, 1, 2, 3, 4, 5, 6, 7, 8, 9, 10, 11, 12, 13, 14], [0, 1, 2, 3, 4, 5, 6, 7, 8, 9, 10, 11, 12, 13, 14, 15], [0, 1, 2, 3, 4, 5, 6, 7, 8, 9, 10, 11, 12, 13, 14, 15, 16], [0, 1, 2, 3, 4, 5, 6, 7, 8, 9, 10, 11, 12, 13, 14, 15, 16], [0, 1, 2, 3, 4, 5, 6, 7, 8, 9, 10, 11, 12, 13, 14, 15, 16], [0, 1, 2, 3, 4, 5, 6, 7, 8, 9, 10, 11, 12, 13, 14, 15, 16, 17, 18, 19], [0, 1, 2, 3, 4, 5, 6, 7, 8, 9, 10, 11, 12, 13, 14, 15, 16], [0, 1, 2, 3, 4, 5, 6, 7, 8, 9, 10, 11, 12, 13, 14, 15, 16, 17, 18, 19, 20, 21], [0, 1, 2, 3, 4, 5, 6, 7, 8, 9, 10, 11, 12, 13, 14, 15, 16, 17, 18, 19, 20, 21, 22], [0, 1, 2, 3, 4, 5, 6, 7, 8, 9, 10, 11, 12, 13, 14, 15, 16, 17, 18, 19, 20, 21, 22, 23], [0, 1, 2, 3, 4, 5, 6, 7, 8, 9, 10, 11, 12, 13, 14, 15, 16, 17, 18, 19, 20, 21, 22, 23, 24], [0, 1, 2, 3, 4, 5, 6, 7, 8, 9, 10, 11, 12, 13, 14, 15, 16, 17, 18, 19, 20, 21, 22, 23, 24, 25]]
                  [fun v w' => RowsAt .i64 34 w' v [], fun v _ => v = .agg #[.int .i64 (a 0), .int .i64 (a 1), .int .i64 (a 2), .int .i64 (a 3), .int .i64 (a 4), .int .i64 (a 5), .int .i64 (a 6), .int .i64 (a 7)], fun v _ => v = .agg #[.int .i64 (d 0), .int .i64 (d 1), .int .i64 (d 2), .int .i64 (d 3), .int .i64 (d 4), .int .i64 (d 5), .int .i64 (d 6), .int .i64 (d 7)], fun v _ => v = .int .i64 (lex8 a d), fun v _ => v = .agg #[.int .i64 (a 0), .int .i64 (a 1), .int .i64 (a 2), .int .i64 (a 3), .int .i64 (a 4), .int .i64 (a 5), .int .i64 (a 6), .int .i64 (a 7)], fun v _ => v = .agg #[.int .i64 (d 0), .int .i64 (d 1), .int .i64 (d 2), .int .i64 (d 3), .int .i64 (d 4), .int .i64 (d 5), .int .i64 (d 6), .int .i64 (d 7)], fun v _ => v = .int .i64 (lex8 a d), fun v _ => v = .bool true, fun v _ => v = .bool true, fun v w' => RowsAt .i64 34 w' v [onesOf 255], fun v _ => v = .agg #[.int .i64 (a 0), .int .i64 (a 1), .int .i64 (a 2), .int .i64 (a 3), .int .i64 (a 4), .int .i64 (a 5), .int .i64 (a 6), .int .i64 (a 7)], fun v _ => v = .agg #[.int .i64 (d 0), .int .i64 (d 1), .int .i64 (d 2), .int .i64 (d 3), .int .i64 (d 4), .int .i64 (d 5), .int .i64 (d 6), .int .i64 (d 7)], fun v _ => v = .int .i64 (-1), fun v _ => v = .int .i64 (-1), fun v _ => v = .bool true, fun v _ => v = .bool true, fun v _ => v = .bool true, fun v w' => RowsAt .i64 34 w' v revRows, fun v _ => v = .agg #[.int .i64 (a 0), .int .i64 (a 1), .int .i64 (a 2), .int .i64 (a 3), .int .i64 (a 4), .int .i64 (a 5), .int .i64 (a 6), .int .i64 (a 7)], fun v _ => v = .agg #[.int .i64 (d 0), .int .i64 (d 1), .int .i64 (d 2), .int .i64 (d 3), .int .i64 (d 4), .int .i64 (d 5), .int .i64 (d 6), .int .i64 (d 7)], fun v _ => v = .int .i64 (-1), fun v _ => v = .int .i64 (-1), fun v _ => v = .bool true, fun v _ => v = .bool true, fun v _ => v = .bool true, fun v _ => v = .bool true, fun v _ => v = .bool true]
                  rfl (by kernel_rfl) (by kernel_rfl) ?stab ?steps ?fin
                case stab => exact .cons (fun _ _ _ he h => h.ext he) (.cons (Stab.eq _) (.cons (Stab.eq _) (.cons (Stab.eq _) (.cons (Stab.eq _) (.cons (Stab.eq _) (.cons (Stab.eq _) (.cons (Stab.eq _) (.cons (Stab.eq _) (.cons (fun _ _ _ he h => h.ext he) (.cons (Stab.eq _) (.cons (Stab.eq _) (.cons (Stab.eq _) (.cons (Stab.eq _) (.cons (Stab.eq _) (.cons (Stab.eq _) (.cons (Stab.eq _) (.cons (fun _ _ _ he h => h.ext he) (.cons (Stab.eq _) (.cons (Stab.eq _) (.cons (Stab.eq _) (.cons (Stab.eq _) (.cons (Stab.eq _) (.cons (Stab.eq _) (.cons (Stab.eq _) (.cons (Stab.eq _) (.cons (Stab.eq _) .nil))))))))))))))))))))))))))
                case steps =>
                  refine .cons ?s0 (.cons ?s1 (.cons ?s2 (.cons ?s3 (.cons ?s4 (.cons ?s5 (.cons ?s6 (.cons ?s7 (.cons ?s8 (.cons ?s9 (.cons ?s10 (.cons ?s11 (.cons ?s12 (.cons ?s13 (.cons ?s14 (.cons ?s15 (.cons ?s16 (.cons ?s17 (.cons ?s18 (.cons ?s19 (.cons ?s20 (.cons ?s21 (.cons ?s22 (.cons ?s23 (.cons ?s24 (.cons ?s25 (.cons ?s26 .nil))))))))))))))))))))))))))
                  case s0 =>
                    intro w' ev hE hk ha hc hf
                    refine opStep_call (by simp [execOp, resolve, invoke, hf, go_sem]) (Lex_any _) ?_
                    rintro e w1 ⟨A, c, rfl, hO, hE1⟩
                    exact ⟨_, rfl, hE1, hO.rows⟩
                  case s1 =>
                    intro w' ev hE hk ha hc hf
                    have e6 : ev (.tmp 6) = .pointer (some ⟨B6, 0, none⟩) := ha 6 (by decide)
                    have c0 : w'.cell? ⟨B6, 0, none⟩ = some (.int .i64 (a 0)) := hE.cellv (hb6.out.cell 0)
                    have c1 : w'.cell? ⟨B6, 1, none⟩ = some (.int .i64 (a 1)) := hE.cellv (hb6.out.cell 1)
                    have c2 : w'.cell? ⟨B6, 2, none⟩ = some (.int .i64 (a 2)) := hE.cellv (hb6.out.cell 2)
                    have c3 : w'.cell? ⟨B6, 3, none⟩ = some (.int .i64 (a 3)) := hE.cellv (hb6.out.cell 3)
                    have c4 : w'.cell? ⟨B6, 4, none⟩ = some (.int .i64 (a 4)) := hE.cellv (hb6.out.cell 4)
                    have c5 : w'.cell? ⟨B6, 5, none⟩ = some (.int .i64 (a 5)) := hE.cellv (hb6.out.cell 5)
                    have c6 : w'.cell? ⟨B6, 6, none⟩ = some (.int .i64 (a 6)) := hE.cellv (hb6.out.cell 6)
                    have c7 : w'.cell? ⟨B6, 7, none⟩ = some (.int .i64 (a 7)) := hE.cellv (hb6.out.cell 7)
                    exact opStep_val (by simp [execOp, e6, c0, c1, c2, c3, c4, c5, c6, c7, go_sem]) rfl
                  case s2 =>
                    intro w' ev hE hk ha hc hf
                    have e7 : ev (.tmp 7) = .pointer (some ⟨B7, 0, none⟩) := ha 7 (by decide)
                    have c0 : w'.cell? ⟨B7, 0, none⟩ = some (.int .i64 (d 0)) := hE.cellv (hb7.out.cell 0)
                    have c1 : w'.cell? ⟨B7, 1, none⟩ = some (.int .i64 (d 1)) := hE.cellv (hb7.out.cell 1)
                    have c2 : w'.cell? ⟨B7, 2, none⟩ = some (.int .i64 (d 2)) := hE.cellv (hb7.out.cell 2)
                    have c3 : w'.cell? ⟨B7, 3, none⟩ = some (.int .i64 (d 3)) := hE.cellv (hb7.out.cell 3)
                    have c4 : w'.cell? ⟨B7, 4, none⟩ = some (.int .i64 (d 4)) := hE.cellv (hb7.out.cell 4)
                    have c5 : w'.cell? ⟨B7, 5, none⟩ = some (.int .i64 (d 5)) := hE.cellv (hb7.out.cell 5)
                    have c6 : w'.cell? ⟨B7, 6, none⟩ = some (.int .i64 (d 6)) := hE.cellv (hb7.out.cell 6)
                    have c7 : w'.cell? ⟨B7, 7, none⟩ = some (.int .i64 (d 7)) := hE.cellv (hb7.out.cell 7)
                    exact opStep_val (by simp [execOp, e7, c0, c1, c2, c3, c4, c5, c6, c7, go_sem]) rfl
                  case s3 =>
                    intro w' ev hE hk ha hc hf
                    have f50 := hk.1 _ rfl
                    have e51 : ev (.tmp 51) = .agg #[.int .i64 (a 0), .int .i64 (a 1), .int .i64 (a 2), .int .i64 (a 3), .int .i64 (a 4), .int .i64 (a 5), .int .i64 (a 6), .int .i64 (a 7)] := hk.2.1 _ rfl
                    have e52 : ev (.tmp 52) = .agg #[.int .i64 (d 0), .int .i64 (d 1), .int .i64 (d 2), .int .i64 (d 3), .int .i64 (d 4), .int .i64 (d 5), .int .i64 (d 6), .int .i64 (d 7)] := hk.2.2.1 _ rfl
                    refine opStep_call (by simp [execOp, resolve, invoke, hf, e51, e52, go_sem]) (oCmp_any _ [] a d _ f50 hin0.out ha6.out hd6.out) ?_
                    rintro e w1 ⟨rfl, hE1⟩
                    exact ⟨_, rfl, hE1, by rw [oCmp_lex]⟩
                  case s4 =>
                    intro w' ev hE hk ha hc hf
                    have e6 : ev (.tmp 6) = .pointer (some ⟨B6, 0, none⟩) := ha 6 (by decide)
                    have c0 : w'.cell? ⟨B6, 0, none⟩ = some (.int .i64 (a 0)) := hE.cellv (hb6.out.cell 0)
                    have c1 : w'.cell? ⟨B6, 1, none⟩ = some (.int .i64 (a 1)) := hE.cellv (hb6.out.cell 1)
                    have c2 : w'.cell? ⟨B6, 2, none⟩ = some (.int .i64 (a 2)) := hE.cellv (hb6.out.cell 2)
                    have c3 : w'.cell? ⟨B6, 3, none⟩ = some (.int .i64 (a 3)) := hE.cellv (hb6.out.cell 3)
                    have c4 : w'.cell? ⟨B6, 4, none⟩ = some (.int .i64 (a 4)) := hE.cellv (hb6.out.cell 4)
                    have c5 : w'.cell? ⟨B6, 5, none⟩ = some (.int .i64 (a 5)) := hE.cellv (hb6.out.cell 5)
                    have c6 : w'.cell? ⟨B6, 6, none⟩ = some (.int .i64 (a 6)) := hE.cellv (hb6.out.cell 6)
                    have c7 : w'.cell? ⟨B6, 7, none⟩ = some (.int .i64 (a 7)) := hE.cellv (hb6.out.cell 7)
                    exact opStep_val (by simp [execOp, e6, c0, c1, c2, c3, c4, c5, c6, c7, go_sem]) rfl
                  case s5 =>
                    intro w' ev hE hk ha hc hf
                    have e7 : ev (.tmp 7) = .pointer (some ⟨B7, 0, none⟩) := ha 7 (by decide)
                    have c0 : w'.cell? ⟨B7, 0, none⟩ = some (.int .i64 (d 0)) := hE.cellv (hb7.out.cell 0)
                    have c1 : w'.cell? ⟨B7, 1, none⟩ = some (.int .i64 (d 1)) := hE.cellv (hb7.out.cell 1)
                    have c2 : w'.cell? ⟨B7, 2, none⟩ = some (.int .i64 (d 2)) := hE.cellv (hb7.out.cell 2)
                    have c3 : w'.cell? ⟨B7, 3, none⟩ = some (.int .i64 (d 3)) := hE.cellv (hb7.out.cell 3)
                    have c4 : w'.cell? ⟨B7, 4, none⟩ = some (.int .i64 (d 4)) := hE.cellv (hb7.out.cell 4)
                    have c5 : w'.cell? ⟨B7, 5, none⟩ = some (.int .i64 (d 5)) := hE.cellv (hb7.out.cell 5)
                    have c6 : w'.cell? ⟨B7, 6, none⟩ = some (.int .i64 (d 6)) := hE.cellv (hb7.out.cell 6)
                    have c7 : w'.cell? ⟨B7, 7, none⟩ = some (.int .i64 (d 7)) := hE.cellv (hb7.out.cell 7)
                    exact opStep_val (by simp [execOp, e7, c0, c1, c2, c3, c4, c5, c6, c7, go_sem]) rfl
                  case s6 =>
                    intro w' ev hE hk ha hc hf
                    have e54 : ev (.tmp 54) = .agg #[.int .i64 (a 0), .int .i64 (a 1), .int .i64 (a 2), .int .i64 (a 3), .int .i64 (a 4), .int .i64 (a 5), .int .i64 (a 6), .int .i64 (a 7)] := hk.1 _ rfl
                    have e55 : ev (.tmp 55) = .agg #[.int .i64 (d 0), .int .i64 (d 1), .int .i64 (d 2), .int .i64 (d 3), .int .i64 (d 4), .int .i64 (d 5), .int .i64 (d 6), .int .i64 (d 7)] := hk.2.1 _ rfl
                    refine opStep_call (by simp [execOp, resolve, invoke, hf, e54, e55, go_sem]) (mCmp_any a d _) ?_
                    rintro e w1 ⟨rfl, hE1⟩
                    exact ⟨_, rfl, hE1, rfl⟩
                  case s7 =>
                    intro w' ev hE hk ha hc hf
                    have e53 : ev (.tmp 53) = .int .i64 (lex8 a d) := hk.1 _ rfl
                    have e56 : ev (.tmp 56) = .int .i64 (lex8 a d) := hk.2.1 _ rfl
                    exact opStep_val (by simp [execOp, e53, e56, hc, go_sem]) rfl
                  case s8 =>
                    intro w' ev hE hk ha hc hf
                    have e57 : ev (.tmp 57) = .bool true := hk.1 _ rfl
                    exact opStep_val (by simp [execOp, e57, go_sem]) rfl
                  case s9 =>
                    intro w' ev hE hk ha hc hf
                    intro gv hg
                    have hgv := hg _ rfl
                    refine ⟨fun hgt => ?_, fun hgf => ?_⟩
                    · skip
                      refine opStep_call (by simp [execOp, resolve, invoke, hf, go_sem]) (Graded_any _) ?_
                      rintro e w1 ⟨A, c, rfl, hO, hE1⟩
                      exact ⟨_, rfl, hE1, hO.rows⟩
                    · exact absurd hgv hgf
                  case s10 =>
                    intro w' ev hE hk ha hc hf
                    intro gv hg
                    have hgv := hg _ rfl
                    refine ⟨fun hgt => ?_, fun hgf => ?_⟩
                    · skip
                      have e6 : ev (.tmp 6) = .pointer (some ⟨B6, 0, none⟩) := ha 6 (by decide)
                      have c0 : w'.cell? ⟨B6, 0, none⟩ = some (.int .i64 (a 0)) := hE.cellv (hb6.out.cell 0)
                      have c1 : w'.cell? ⟨B6, 1, none⟩ = some (.int .i64 (a 1)) := hE.cellv (hb6.out.cell 1)
                      have c2 : w'.cell? ⟨B6, 2, none⟩ = some (.int .i64 (a 2)) := hE.cellv (hb6.out.cell 2)
                      have c3 : w'.cell? ⟨B6, 3, none⟩ = some (.int .i64 (a 3)) := hE.cellv (hb6.out.cell 3)
                      have c4 : w'.cell? ⟨B6, 4, none⟩ = some (.int .i64 (a 4)) := hE.cellv (hb6.out.cell 4)
                      have c5 : w'.cell? ⟨B6, 5, none⟩ = some (.int .i64 (a 5)) := hE.cellv (hb6.out.cell 5)
                      have c6 : w'.cell? ⟨B6, 6, none⟩ = some (.int .i64 (a 6)) := hE.cellv (hb6.out.cell 6)
                      have c7 : w'.cell? ⟨B6, 7, none⟩ = some (.int .i64 (a 7)) := hE.cellv (hb6.out.cell 7)
                      exact opStep_val (by simp [execOp, e6, c0, c1, c2, c3, c4, c5, c6, c7, go_sem]) rfl
                    · exact absurd hgv hgf
                  case s11 =>
                    intro w' ev hE hk ha hc hf
                    intro gv hg
                    have hgv := hg _ rfl
                    refine ⟨fun hgt => ?_, fun hgf => ?_⟩
                    · skip
                      have e7 : ev (.tmp 7) = .pointer (some ⟨B7, 0, none⟩) := ha 7 (by decide)
                      have c0 : w'.cell? ⟨B7, 0, none⟩ = some (.int .i64 (d 0)) := hE.cellv (hb7.out.cell 0)
                      have c1 : w'.cell? ⟨B7, 1, none⟩ = some (.int .i64 (d 1)) := hE.cellv (hb7.out.cell 1)
                      have c2 : w'.cell? ⟨B7, 2, none⟩ = some (.int .i64 (d 2)) := hE.cellv (hb7.out.cell 2)
                      have c3 : w'.cell? ⟨B7, 3, none⟩ = some (.int .i64 (d 3)) := hE.cellv (hb7.out.cell 3)
                      have c4 : w'.cell? ⟨B7, 4, none⟩ = some (.int .i64 (d 4)) := hE.cellv (hb7.out.cell 4)
                      have c5 : w'.cell? ⟨B7, 5, none⟩ = some (.int .i64 (d 5)) := hE.cellv (hb7.out.cell 5)
                      have c6 : w'.cell? ⟨B7, 6, none⟩ = some (.int .i64 (d 6)) := hE.cellv (hb7.out.cell 6)
                      have c7 : w'.cell? ⟨B7, 7, none⟩ = some (.int .i64 (d 7)) := hE.cellv (hb7.out.cell 7)
                      exact opStep_val (by simp [execOp, e7, c0, c1, c2, c3, c4, c5, c6, c7, go_sem]) rfl
                    · exact absurd hgv hgf
                  case s12 =>
                    intro w' ev hE hk ha hc hf
                    intro gv hg
                    have hgv := hg _ rfl
                    refine ⟨fun hgt => ?_, fun hgf => ?_⟩
                    · skip
                      have f59 := hk.1 _ rfl
                      have e60 : ev (.tmp 60) = .agg #[.int .i64 (a 0), .int .i64 (a 1), .int .i64 (a 2), .int .i64 (a 3), .int .i64 (a 4), .int .i64 (a 5), .int .i64 (a 6), .int .i64 (a 7)] := hk.2.1 _ rfl
                      have e61 : ev (.tmp 61) = .agg #[.int .i64 (d 0), .int .i64 (d 1), .int .i64 (d 2), .int .i64 (d 3), .int .i64 (d 4), .int .i64 (d 5), .int .i64 (d 6), .int .i64 (d 7)] := hk.2.2.1 _ rfl
                      refine opStep_call (by simp [execOp, resolve, invoke, hf, e60, e61, go_sem]) (oCmp_any _ [onesOf 255] a d _ f59 hin1.out ha6.out hd6.out) ?_
                      rintro e w1 ⟨rfl, hE1⟩
                      exact ⟨_, rfl, hE1, by rw [hgr.out]⟩
                    · exact absurd hgv hgf
                  case s13 =>
                    intro w' ev hE hk ha hc hf
                    intro gv hg
                    have hgv := hg _ rfl
                    refine ⟨fun hgt => ?_, fun hgf => ?_⟩
                    · skip
                      have e8 : ev (.tmp 8) = .int .i64 (-1) := ha 8 (by decide)
                      exact opStep_val (by simp [execOp, e8, go_sem]) rfl
                    · exact absurd hgv hgf
                  case s14 =>
                    intro w' ev hE hk ha hc hf
                    intro gv hg
                    have hgv := hg _ rfl
                    refine ⟨fun hgt => ?_, fun hgf => ?_⟩
                    · skip
                      have e62 : ev (.tmp 62) = .int .i64 (-1) := hk.1 _ rfl
                      have e63 : ev (.tmp 63) = .int .i64 (-1) := hk.2.1 _ rfl
                      exact opStep_val (by simp [execOp, e62, e63, hc, go_sem]) rfl
                    · exact absurd hgv hgf
                  case s15 =>
                    intro w' ev hE hk ha hc hf
                    have e58 : ev (.tmp 58) = .bool true := hk.1 _ rfl
                    have e64 : ev (.tmp 64) = .bool true := hk.2.1 _ rfl
                    exact opStep_val (by simp [execOp, e58, e64, hc, go_sem]) rfl
                  case s16 =>
                    intro w' ev hE hk ha hc hf
                    have e65 : ev (.tmp 65) = .bool true := hk.1 _ rfl
                    exact opStep_val (by simp [execOp, e65, go_sem]) rfl
                  case s17 =>
                    intro w' ev hE hk ha hc hf
                    intro gv hg
                    have hgv := hg _ rfl
                    refine ⟨fun hgt => ?_, fun hgf => ?_⟩
                    · skip
                      refine opStep_call (by simp [execOp, resolve, invoke, hf, go_sem]) (Reverse_any _) ?_
                      rintro e w1 ⟨A, c, rfl, hO, hE1⟩
                      exact ⟨_, rfl, hE1, hO.rows⟩
                    · exact absurd hgv hgf
                  case s18 =>
                    intro w' ev hE hk ha hc hf
                    intro gv hg
                    have hgv := hg _ rfl
                    refine ⟨fun hgt => ?_, fun hgf => ?_⟩
                    · skip
                      have e6 : ev (.tmp 6) = .pointer (some ⟨B6, 0, none⟩) := ha 6 (by decide)
                      have c0 : w'.cell? ⟨B6, 0, none⟩ = some (.int .i64 (a 0)) := hE.cellv (hb6.out.cell 0)
                      have c1 : w'.cell? ⟨B6, 1, none⟩ = some (.int .i64 (a 1)) := hE.cellv (hb6.out.cell 1)
                      have c2 : w'.cell? ⟨B6, 2, none⟩ = some (.int .i64 (a 2)) := hE.cellv (hb6.out.cell 2)
                      have c3 : w'.cell? ⟨B6, 3, none⟩ = some (.int .i64 (a 3)) := hE.cellv (hb6.out.cell 3)
                      have c4 : w'.cell? ⟨B6, 4, none⟩ = some (.int .i64 (a 4)) := hE.cellv (hb6.out.cell 4)
                      have c5 : w'.cell? ⟨B6, 5, none⟩ = some (.int .i64 (a 5)) := hE.cellv (hb6.out.cell 5)
                      have c6 : w'.cell? ⟨B6, 6, none⟩ = some (.int .i64 (a 6)) := hE.cellv (hb6.out.cell 6)
                      have c7 : w'.cell? ⟨B6, 7, none⟩ = some (.int .i64 (a 7)) := hE.cellv (hb6.out.cell 7)
                      exact opStep_val (by simp [execOp, e6, c0, c1, c2, c3, c4, c5, c6, c7, go_sem]) rfl
                    · exact absurd hgv hgf
                  case s19 =>
                    intro w' ev hE hk ha hc hf
                    intro gv hg
                    have hgv := hg _ rfl
                    refine ⟨fun hgt => ?_, fun hgf => ?_⟩
                    · skip
                      have e7 : ev (.tmp 7) = .pointer (some ⟨B7, 0, none⟩) := ha 7 (by decide)
                      have c0 : w'.cell? ⟨B7, 0, none⟩ = some (.int .i64 (d 0)) := hE.cellv (hb7.out.cell 0)
                      have c1 : w'.cell? ⟨B7, 1, none⟩ = some (.int .i64 (d 1)) := hE.cellv (hb7.out.cell 1)
                      have c2 : w'.cell? ⟨B7, 2, none⟩ = some (.int .i64 (d 2)) := hE.cellv (hb7.out.cell 2)
                      have c3 : w'.cell? ⟨B7, 3, none⟩ = some (.int .i64 (d 3)) := hE.cellv (hb7.out.cell 3)
                      have c4 : w'.cell? ⟨B7, 4, none⟩ = some (.int .i64 (d 4)) := hE.cellv (hb7.out.cell 4)
                      have c5 : w'.cell? ⟨B7, 5, none⟩ = some (.int .i64 (d 5)) := hE.cellv (hb7.out.cell 5)
                      have c6 : w'.cell? ⟨B7, 6, none⟩ = some (.int .i64 (d 6)) := hE.cellv (hb7.out.cell 6)
                      have c7 : w'.cell? ⟨B7, 7, none⟩ = some (.int .i64 (d 7)) := hE.cellv (hb7.out.cell 7)
                      exact opStep_val (by simp [execOp, e7, c0, c1, c2, c3, c4, c5, c6, c7, go_sem]) rfl
                    · exact absurd hgv hgf
                  case s20 =>
                    intro w' ev hE hk ha hc hf
                    intro gv hg
                    have hgv := hg _ rfl
                    refine ⟨fun hgt => ?_, fun hgf => ?_⟩
                    · skip
                      have f67 := hk.1 _ rfl
                      have e68 : ev (.tmp 68) = .agg #[.int .i64 (a 0), .int .i64 (a 1), .int .i64 (a 2), .int .i64 (a 3), .int .i64 (a 4), .int .i64 (a 5), .int .i64 (a 6), .int .i64 (a 7)] := hk.2.1 _ rfl
                      have e69 : ev (.tmp 69) = .agg #[.int .i64 (d 0), .int .i64 (d 1), .int .i64 (d 2), .int .i64 (d 3), .int .i64 (d 4), .int .i64 (d 5), .int .i64 (d 6), .int .i64 (d 7)] := hk.2.2.1 _ rfl
                      refine opStep_call (by simp [execOp, resolve, invoke, hf, e68, e69, go_sem]) (oCmp_any _ revRows a d _ f67 hin2.out ha6.out hd6.out) ?_
                      rintro e w1 ⟨rfl, hE1⟩
                      exact ⟨_, rfl, hE1, by rw [hrv.out]⟩
                    · exact absurd hgv hgf
                  case s21 =>
                    intro w' ev hE hk ha hc hf
                    intro gv hg
                    have hgv := hg _ rfl
                    refine ⟨fun hgt => ?_, fun hgf => ?_⟩
                    · skip
                      have e9 : ev (.tmp 9) = .int .i64 (-1) := ha 9 (by decide)
                      exact opStep_val (by simp [execOp, e9, go_sem]) rfl
                    · exact absurd hgv hgf
                  case s22 =>
                    intro w' ev hE hk ha hc hf
                    intro gv hg
                    have hgv := hg _ rfl
                    refine ⟨fun hgt => ?_, fun hgf => ?_⟩
                    · skip
                      have e70 : ev (.tmp 70) = .int .i64 (-1) := hk.1 _ rfl
                      have e71 : ev (.tmp 71) = .int .i64 (-1) := hk.2.1 _ rfl
                      exact opStep_val (by simp [execOp, e70, e71, hc, go_sem]) rfl
                    · exact absurd hgv hgf
                  case s23 =>
                    intro w' ev hE hk ha hc hf
                    have e66 : ev (.tmp 66) = .bool true := hk.1 _ rfl
                    have e72 : ev (.tmp 72) = .bool true := hk.2.1 _ rfl
                    exact opStep_val (by simp [execOp, e66, e72, hc, go_sem]) rfl
                  case s24 =>
                    intro w' ev hE hk ha hc hf
                    have e73 : ev (.tmp 73) = .bool true := hk.1 _ rfl
                    exact opStep_val (by simp [execOp, e73, go_sem]) rfl
                  case s25 =>
                    intro w' ev hE hk ha hc hf
                    intro gv hg
                    have hgv := hg _ rfl
                    refine ⟨fun hgt => ?_, fun hgf => ?_⟩
                    · skip
                      have e5 : ev (.tmp 5) = .bool true := ha 5 (by decide)
                      exact opStep_val (by simp [execOp, e5, go_sem]) rfl
                    · exact absurd hgv hgf
                  case s26 =>
                    intro w' ev hE hk ha hc hf
                    have e74 : ev (.tmp 74) = .bool true := hk.1 _ rfl
                    have e75 : ev (.tmp 75) = .bool true := hk.2.1 _ rfl
                    exact opStep_val (by simp [execOp, e74, e75, hc, go_sem]) rfl
                case fin =>
                  intro g w' hE hF
                  have e26 := hF 26 _ rfl
                  simp only [List.length_cons, List.length_nil, Nat.reduceAdd, List.drop_succ_cons, List.drop_zero, List.take_succ_cons, List.take_zero, putG, Act.put, List.setIfInBounds_toArray, List.set_cons_succ, List.set_cons_zero, e26]
                  go_wp2
                  go_ret
                  exact ⟨rfl, hEw.out.trans ((Ext.refl _).drew.trans hE)⟩
          · have hgr : Hid (oCmp [onesOf 255] a d = lex8 a d) := hide (by rw [ocg.out, if_neg (by omega), if_neg (by omega)])
            have hrv : Hid (oCmp revRows a d = lastTo a d 8) := hide (by rw [ocr.out, if_neg (by omega), if_neg (by omega)])
            have h1 : decide (sumTo a 8 < sumTo d 8) = false := by simp; omega
            have h2 : decide (sumTo d 8 < sumTo a 8) = false := by simp; omega
            have h3 : ¬ sumTo a 8 < sumTo d 8 := by omega
            have h4 : ¬ sumTo d 8 < sumTo a 8 := by omega
            replace h1 := hide h1
            replace h2 := hide h2
            clear ocg ocr hlt
            go_upto_region 10 with (fail)
            refine wp_region_v (by kernel_rfl) [[], [(40, 0)], [], [(42, 2)], [(41, 1), (43, 3)]] [[], [0], [], [0, 1, 2], [0, 1, 2, 3]]
              [fun v _ => v = .agg #[.int .i64 (a 0), .int .i64 (a 1), .int .i64 (a 2), .int .i64 (a 3), .int .i64 (a 4), .int .i64 (a 5), .int .i64 (a 6), .int .i64 (a 7)], fun v _ => v = .int .i64 (sumTo a 8), fun v _ => v = .agg #[.int .i64 (d 0), .int .i64 (d 1), .int .i64 (d 2), .int .i64 (d 3), .int .i64 (d 4), .int .i64 (d 5), .int .i64 (d 6), .int .i64 (d 7)], fun v _ => v = .int .i64 (sumTo d 8), fun v _ => v = .bool false]
              rfl (by kernel_rfl) (by kernel_rfl) ?stab ?steps ?fin
            case stab => exact .cons (Stab.eq _) (.cons (Stab.eq _) (.cons (Stab.eq _) (.cons (Stab.eq _) (.cons (Stab.eq _) .nil))))
            case steps =>
              refine .cons ?s0 (.cons ?s1 (.cons ?s2 (.cons ?s3 (.cons ?s4 .nil))))
              case s0 =>
                intro w' ev hE hk ha hc hf
                have e6 : ev (.tmp 6) = .pointer (some ⟨B6, 0, none⟩) := ha 6 (by decide)
                have c0 : w'.cell? ⟨B6, 0, none⟩ = some (.int .i64 (a 0)) := hE.cellv (hb6.out.cell 0)
                have c1 : w'.cell? ⟨B6, 1, none⟩ = some (.int .i64 (a 1)) := hE.cellv (hb6.out.cell 1)
                have c2 : w'.cell? ⟨B6, 2, none⟩ = some (.int .i64 (a 2)) := hE.cellv (hb6.out.cell 2)
                have c3 : w'.cell? ⟨B6, 3, none⟩ = some (.int .i64 (a 3)) := hE.cellv (hb6.out.cell 3)
                have c4 : w'.cell? ⟨B6, 4, none⟩ = some (.int .i64 (a 4)) := hE.cellv (hb6.out.cell 4)
                have c5 : w'.cell? ⟨B6, 5, none⟩ = some (.int .i64 (a 5)) := hE.cellv (hb6.out.cell 5)
                have c6 : w'.cell? ⟨B6, 6, none⟩ = some (.int .i64 (a 6)) := hE.cellv (hb6.out.cell 6)
                have c7 : w'.cell? ⟨B6, 7, none⟩ = some (.int .i64 (a 7)) := hE.cellv (hb6.out.cell 7)
                exact opStep_val (by simp [execOp, e6, c0, c1, c2, c3, c4, c5, c6, c7, go_sem]) rfl
              case s1 =>
                intro w' ev hE hk ha hc hf
                have e40 : ev (.tmp 40) = .agg #[.int .i64 (a 0), .int .i64 (a 1), .int .i64 (a 2), .int .i64 (a 3), .int .i64 (a 4), .int .i64 (a 5), .int .i64 (a 6), .int .i64 (a 7)] := hk.1 _ rfl
                refine opStep_call (by simp [execOp, resolve, invoke, hf, e40, go_sem]) (Degree_any a _ ha6.out) ?_
                rintro e w1 ⟨rfl, hE1⟩
                exact ⟨_, rfl, hE1, rfl⟩
              case s2 =>
                intro w' ev hE hk ha hc hf
                have e7 : ev (.tmp 7) = .pointer (some ⟨B7, 0, none⟩) := ha 7 (by decide)
                have c0 : w'.cell? ⟨B7, 0, none⟩ = some (.int .i64 (d 0)) := hE.cellv (hb7.out.cell 0)
                have c1 : w'.cell? ⟨B7, 1, none⟩ = some (.int .i64 (d 1)) := hE.cellv (hb7.out.cell 1)
                have c2 : w'.cell? ⟨B7, 2, none⟩ = some (.int .i64 (d 2)) := hE.cellv (hb7.out.cell 2)
                have c3 : w'.cell? ⟨B7, 3, none⟩ = some (.int .i64 (d 3)) := hE.cellv (hb7.out.cell 3)
                have c4 : w'.cell? ⟨B7, 4, none⟩ = some (.int .i64 (d 4)) := hE.cellv (hb7.out.cell 4)
                have c5 : w'.cell? ⟨B7, 5, none⟩ = some (.int .i64 (d 5)) := hE.cellv (hb7.out.cell 5)
                have c6 : w'.cell? ⟨B7, 6, none⟩ = some (.int .i64 (d 6)) := hE.cellv (hb7.out.cell 6)
                have c7 : w'.cell? ⟨B7, 7, none⟩ = some (.int .i64 (d 7)) := hE.cellv (hb7.out.cell 7)
                exact opStep_val (by simp [execOp, e7, c0, c1, c2, c3, c4, c5, c6, c7, go_sem]) rfl
              case s3 =>
                intro w' ev hE hk ha hc hf
                have e42 : ev (.tmp 42) = .agg #[.int .i64 (d 0), .int .i64 (d 1), .int .i64 (d 2), .int .i64 (d 3), .int .i64 (d 4), .int .i64 (d 5), .int .i64 (d 6), .int .i64 (d 7)] := hk.1 _ rfl
                refine opStep_call (by simp [execOp, resolve, invoke, hf, e42, go_sem]) (Degree_any d _ hd6.out) ?_
                rintro e w1 ⟨rfl, hE1⟩
                exact ⟨_, rfl, hE1, rfl⟩
              case s4 =>
                intro w' ev hE hk ha hc hf
                have e41 : ev (.tmp 41) = .int .i64 (sumTo a 8) := hk.1 _ rfl
                have e43 : ev (.tmp 43) = .int .i64 (sumTo d 8) := hk.2.1 _ rfl
                exact opStep_val (by simp [execOp, e41, e43, h1.out, h3, go_sem]) rfl
            case fin =>
              intro g w' hE hF
              have e4 := hF 4 _ rfl
              simp only [List.length_cons, List.length_nil, Nat.reduceAdd, List.drop_succ_cons, List.drop_zero, List.take_succ_cons, List.take_zero, putG, Act.put, List.setIfInBounds_toArray, List.set_cons_succ, List.set_cons_zero, e4]
              replace hE := hide ((Ext.refl _).drew.trans hE)
              replace hb6 := hide (hb6.out.ext hE.out)
              replace hb7 := hide (hb7.out.ext hE.out)
              replace hEw := hide (hEw.out.trans hE.out)
              clear hF hE
              clear e4
              go_upto_region 12 with (fail)
              refine wp_region_v (by kernel_rfl) [[], [(45, 0)], [], [(47, 2)], [(46, 1), (48, 3)]] [[], [0], [], [0, 1, 2], [0, 1, 2, 3]]
                [fun v _ => v = .agg #[.int .i64 (a 0), .int .i64 (a 1), .int .i64 (a 2), .int .i64 (a 3), .int .i64 (a 4), .int .i64 (a 5), .int .i64 (a 6), .int .i64 (a 7)], fun v _ => v = .int .i64 (sumTo a 8), fun v _ => v = .agg #[.int .i64 (d 0), .int .i64 (d 1), .int .i64 (d 2), .int .i64 (d 3), .int .i64 (d 4), .int .i64 (d 5), .int .i64 (d 6), .int .i64 (d 7)], fun v _ => v = .int .i64 (sumTo d 8), fun v _ => v = .bool false]
                rfl (by kernel_rfl) (by kernel_rfl) ?stab ?steps ?fin
              case stab => exact .cons (Stab.eq _) (.cons (Stab.eq _) (.cons (Stab.eq _) (.cons (Stab.eq _) (.cons (Stab.eq _) .nil))))
              case steps =>
                refine .cons ?s0 (.cons ?s1 (.cons ?s2 (.cons ?s3 (.cons ?s4 .nil))))
                case s0 =>
                  intro w' ev hE hk ha hc hf
                  have e6 : ev (.tmp 6) = .pointer (some ⟨B6, 0, none⟩) := ha 6 (by decide)
                  have c0 : w'.cell? ⟨B6, 0, none⟩ = some (.int .i64 (a 0)) := hE.cellv (hb6.out.cell 0)
                  have c1 : w'.cell? ⟨B6, 1, none⟩ = some (.int .i64 (a 1)) := hE.cellv (hb6.out.cell 1)
                  have c2 : w'.cell? ⟨B6, 2, none⟩ = some (.int .i64 (a 2)) := hE.cellv (hb6.out.cell 2)
                  have c3 : w'.cell? ⟨B6, 3, none⟩ = some (.int .i64 (a 3)) := hE.cellv (hb6.out.cell 3)
                  have c4 : w'.cell? ⟨B6, 4, none⟩ = some (.int .i64 (a 4)) := hE.cellv (hb6.out.cell 4)
                  have c5 : w'.cell? ⟨B6, 5, none⟩ = some (.int .i64 (a 5)) := hE.cellv (hb6.out.cell 5)
                  have c6 : w'.cell? ⟨B6, 6, none⟩ = some (.int .i64 (a 6)) := hE.cellv (hb6.out.cell 6)
                  have c7 : w'.cell? ⟨B6, 7, none⟩ = some (.int .i64 (a 7)) := hE.cellv (hb6.out.cell 7)
                  exact opStep_val (by simp [execOp, e6, c0, c1, c2, c3, c4, c5, c6, c7, go_sem]) rfl
                case s1 =>
                  intro w' ev hE hk ha hc hf
                  have e45 : ev (.tmp 45) = .agg #[.int .i64 (a 0), .int .i64 (a 1), .int .i64 (a 2), .int .i64 (a 3), .int .i64 (a 4), .int .i64 (a 5), .int .i64 (a 6), .int .i64 (a 7)] := hk.1 _ rfl
                  refine opStep_call (by simp [execOp, resolve, invoke, hf, e45, go_sem]) (Degree_any a _ ha6.out) ?_
                  rintro e w1 ⟨rfl, hE1⟩
                  exact ⟨_, rfl, hE1, rfl⟩
                case s2 =>
                  intro w' ev hE hk ha hc hf
                  have e7 : ev (.tmp 7) = .pointer (some ⟨B7, 0, none⟩) := ha 7 (by decide)
                  have c0 : w'.cell? ⟨B7, 0, none⟩ = some (.int .i64 (d 0)) := hE.cellv (hb7.out.cell 0)
                  have c1 : w'.cell? ⟨B7, 1, none⟩ = some (.int .i64 (d 1)) := hE.cellv (hb7.out.cell 1)
                  have c2 : w'.cell? ⟨B7, 2, none⟩ = some (.int .i64 (d 2)) := hE.cellv (hb7.out.cell 2)
                  have c3 : w'.cell? ⟨B7, 3, none⟩ = some (.int .i64 (d 3)) := hE.cellv (hb7.out.cell 3)
                  have c4 : w'.cell? ⟨B7, 4, none⟩ = some (.int .i64 (d 4)) := hE.cellv (hb7.out.cell 4)
                  have c5 : w'.cell? ⟨B7, 5, none⟩ = some (.int .i64 (d 5)) := hE.cellv (hb7.out.cell 5)
                  have c6 : w'.cell? ⟨B7, 6, none⟩ = some (.int .i64 (d 6)) := hE.cellv (hb7.out.cell 6)
                  have c7 : w'.cell? ⟨B7, 7, none⟩ = some (.int .i64 (d 7)) := hE.cellv (hb7.out.cell 7)
                  exact opStep_val (by simp [execOp, e7, c0, c1, c2, c3, c4, c5, c6, c7, go_sem]) rfl
                case s3 =>
                  intro w' ev hE hk ha hc hf
                  have e47 : ev (.tmp 47) = .agg #[.int .i64 (d 0), .int .i64 (d 1), .int .i64 (d 2), .int .i64 (d 3), .int .i64 (d 4), .int .i64 (d 5), .int .i64 (d 6), .int .i64 (d 7)] := hk.1 _ rfl
                  refine opStep_call (by simp [execOp, resolve, invoke, hf, e47, go_sem]) (Degree_any d _ hd6.out) ?_
                  rintro e w1 ⟨rfl, hE1⟩
                  exact ⟨_, rfl, hE1, rfl⟩
                case s4 =>
                  intro w' ev hE hk ha hc hf
                  have e46 : ev (.tmp 46) = .int .i64 (sumTo a 8) := hk.1 _ rfl
                  have e48 : ev (.tmp 48) = .int .i64 (sumTo d 8) := hk.2.1 _ rfl
                  exact opStep_val (by simp [execOp, e46, e48, h2.out, h4, go_sem]) rfl
              case fin =>
                intro g w' hE hF
                have e4 := hF 4 _ rfl
                simp only [List.length_cons, List.length_nil, Nat.reduceAdd, List.drop_succ_cons, List.drop_zero, List.take_succ_cons, List.take_zero, putG, Act.put, List.setIfInBounds_toArray, List.set_cons_succ, List.set_cons_zero, e4]
                replace hE := hide ((Ext.refl _).drew.trans hE)
                replace hb6 := hide (hb6.out.ext hE.out)
                replace hb7 := hide (hb7.out.ext hE.out)
                replace hEw := hide (hEw.out.trans hE.out)
                clear hF hE
                clear e4
                go_upto_region 14 with (fail)
                refine wp_region_v (by kernel_rfl) [[], [], [], [(50, 0), (51, 1), (52, 2)], [], [], [(54, 4), (55, 5)], [(53, 3), (56, 6)], [(57, 7)], [], [], [], [(59, 9), (60, 10), (61, 11)], [], [(62, 12), (63, 13)], [(58, 8), (64, 14)], [(65, 15)], [], [], [], [(67, 17), (68, 18), (69, 19)], [], [(70, 20), (71, 21)], [(66, 16), (72, 22)], [(73, 23)], [], [(74, 24), (75, 25)]] [[], [], [], [0, 1, 2], [], [], [0, 1, 2, 3, 4, 5], [0, 1, 2, 3, 4, 5, 6], [0, 1, 2, 3, 4, 5, 6, 7], [0, 1, 2, 3, 4, 5, 6, 7, 8], [0, 1, 2, 3, 4, 5, 6, 7, 8], [0, 1, 2, 3, 4, 5, 6, 7, 8], [0, 1, 2, 3, 4, 5, 6, 7, 8, 9, 10, 11], [0, 1, 2, 3, 4, 5, 6, 7, 8], [0, 1, 2, 3, 4, 5, 6, 7, 8, 9, 10, 11, 12, 13], [0, 1, 2, 3, 4, 5, 6, 7, 8, 9, 10, 11, 12, 13, 14], [0, 1, 2, 3, 4, 5, 6, 7, 8, 9, 10, 11, 12, 13, 14, 15], [0, 1, 2, 3, 4, 5, 6, 7, 8, 9, 10, 11, 12, 13, 14, 15, 16], [0, 1, 2, 3, 4, 5, 6, 7, 8, 9, 10, 11, 12, 13, 14, 15, 16], [0, 1, 2, 3, 4, 5, 6, 7, 8, 9, 10, 11, 12, 13, 14, 15, 16], [0, 1, 2, 3, 4, 5, 6, 7, 8, 9, 10, 11, 12, 13, 14, 15, 16, 17, 18, 19], [0, 1, 2, 3, 4, 5, 6, 7, 8, 9, 10, 11, 12, 13, 14, 15, 16], [0, 1, 2, 3, 4, 5, 6, 7, 8, 9, 10, 11, 12, 13, 14, 15, 16, 17, 18, 19, 20, 21], [0, 1, 2, 3, 4, 5, 6, 7, 8, 9, 10, 11, 12, 13, 14, 15, 16, 17, 18, 19, 20, 21, 22], [0, 1, 2, 3, 4, 5, 6, 7, 8, 9, 10, 11, 12, 13, 14, 15, 16, 17, 18, 19, 20, 21, 22, 23], [0, 1, 2, 3, 4, 5, 6, 7, 8, 9, 10, 11, 12, 13, 14, 15, 16, 17, 18, 19, 20, 21, 22, 23, 24], [0, 1, 2, 3, 4, 5, 6, 7, 8, 9, 10, 11, 12, 13, 14, 15, 16, 17, 18, 19, 20, 21, 22, 23, 24, 25]]
                  [fun v w' => RowsAt .i64 34 w' v [], fun v _ => v = .agg #[.int .i64 (a 0), .int .i64 (a 1), .int .i64 (a 2), .int .i64 (a 3), .int .i64 (a 4), .int .i64 (a 5), .int .i64 (a 6), .int .i64 (a 7)], fun v _ => v = .agg #[.int .i64 (d 0), .int .i64 (d 1), .int .i64 (d 2), .int .i64 (d 3), .int .i64 (d 4), .int .i64 (d 5), .int .i64 (d 6), .int .i64 (d 7)], fun v _ => v = .int .i64 (lex8 a d), fun v _ => v = .agg #[.int .i64 (a 0), .int .i64 (a 1), .int .i64 (a 2), .int .i64 (a 3), .int .i64 (a 4), .int .i64 (a 5), .int .i64 (a 6), .int .i64 (a 7)], fun v _ => v = .agg #[.int .i64 (d 0), .int .i64 (d 1), .int .i64 (d 2), .int .i64 (d 3), .int .i64 (d 4), .int .i64 (d 5), .int .i64 (d 6), .int .i64 (d 7)], fun v _ => v = .int .i64 (lex8 a d), fun v _ => v = .bool true, fun v _ => v = .bool true, fun v w' => RowsAt .i64 34 w' v [onesOf 255], fun v _ => v = .agg #[.int .i64 (a 0), .int .i64 (a 1), .int .i64 (a 2), .int .i64 (a 3), .int .i64 (a 4), .int .i64 (a 5), .int .i64 (a 6), .int .i64 (a 7)], fun v _ => v = .agg #[.int .i64 (d 0), .int .i64 (d 1), .int .i64 (d 2), .int .i64 (d 3), .int .i64 (d 4), .int .i64 (d 5), .int .i64 (d 6), .int .i64 (d 7)], fun v _ => v = .int .i64 (lex8 a d), fun v _ => v = .int .i64 (lex8 a d), fun v _ => v = .bool true, fun v _ => v = .bool true, fun v _ => v = .bool true, fun v w' => RowsAt .i64 34 w' v revRows, fun v _ => v = .agg #[.int .i64 (a 0), .int .i64 (a 1), .int .i64 (a 2), .int .i64 (a 3), .int .i64 (a 4), .int .i64 (a 5), .int .i64 (a 6), .int .i64 (a 7)], fun v _ => v = .agg #[.int .i64 (d 0), .int .i64 (d 1), .int .i64 (d 2), .int .i64 (d 3), .int .i64 (d 4), .int .i64 (d 5), .int .i64 (d 6), .int .i64 (d 7)], fun v _ => v = .int .i64 (lastTo a d 8), fun v _ => v = .int .i64 (lastTo a d 8), fun v _ => v = .bool true, fun v _ => v = .bool true, fun v _ => v = .bool true, fun v _ => v = .bool true, fun v _ => v = .bool true]
                  rfl (by kernel_rfl) (by kernel_rfl) ?stab ?steps ?fin
                case stab => exact .cons (fun _ _ _ he h => h.ext he) (.cons (Stab.eq _) (.cons (Stab.eq _) (.cons (Stab.eq _) (.cons (Stab.eq _) (.cons (Stab.eq _) (.cons (Stab.eq _) (.cons (Stab.eq _) (.cons (Stab.eq _) (.cons (fun _ _ _ he h => h.ext he) (.cons (Stab.eq _) (.cons (Stab.eq _) (.cons (Stab.eq _) (.cons (Stab.eq _) (.cons (Stab.eq _) (.cons (Stab.eq _) (.cons (Stab.eq _) (.cons (fun _ _ _ he h => h.ext he) (.cons (Stab.eq _) (.cons (Stab.eq _) (.cons (Stab.eq _) (.cons (Stab.eq _) (.cons (Stab.eq _) (.cons (Stab.eq _) (.cons (Stab.eq _) (.cons (Stab.eq _) (.cons (Stab.eq _) .nil))))))))))))))))))))))))))
                case steps =>
                  refine .cons ?s0 (.cons ?s1 (.cons ?s2 (.cons ?s3 (.cons ?s4 (.cons ?s5 (.cons ?s6 (.cons ?s7 (.cons ?s8 (.cons ?s9 (.cons ?s10 (.cons ?s11 (.cons ?s12 (.cons ?s13 (.cons ?s14 (.cons ?s15 (.cons ?s16 (.cons ?s17 (.cons ?s18 (.cons ?s19 (.cons ?s20 (.cons ?s21 (.cons ?s22 (.cons ?s23 (.cons ?s24 (.cons ?s25 (.cons ?s26 .nil))))))))))))))))))))))))))
                  case s0 =>
                    intro w' ev hE hk ha hc hf
                    refine opStep_call (by simp [execOp, resolve, invoke, hf, go_sem]) (Lex_any _) ?_
                    rintro e w1 ⟨A, c, rfl, hO, hE1⟩
                    exact ⟨_, rfl, hE1, hO.rows⟩
                  case s1 =>
                    intro w' ev hE hk ha hc hf
                    have e6 : ev (.tmp 6) = .pointer (some ⟨B6, 0, none⟩) := ha 6 (by decide)
                    have c0 : w'.cell? ⟨B6, 0, none⟩ = some (.int .i64 (a 0)) := hE.cellv (hb6.out.cell 0)
                    have c1 : w'.cell? ⟨B6, 1, none⟩ = some (.int .i64 (a 1)) := hE.cellv (hb6.out.cell 1)
                    have c2 : w'.cell? ⟨B6, 2, none⟩ = some (.int .i64 (a 2)) := hE.cellv (hb6.out.cell 2)
                    have c3 : w'.cell? ⟨B6, 3, none⟩ = some (.int .i64 (a 3)) := hE.cellv (hb6.out.cell 3)
                    have c4 : w'.cell? ⟨B6, 4, none⟩ = some (.int .i64 (a 4)) := hE.cellv (hb6.out.cell 4)
                    have c5 : w'.cell? ⟨B6, 5, none⟩ = some (.int .i64 (a 5)) := hE.cellv (hb6.out.cell 5)
                    have c6 : w'.cell? ⟨B6, 6, none⟩ = some (.int .i64 (a 6)) := hE.cellv (hb6.out.cell 6)
                    have c7 : w'.cell? ⟨B6, 7, none⟩ = some (.int .i64 (a 7)) := hE.cellv (hb6.out.cell 7)
                    exact opStep_val (by simp [execOp, e6, c0, c1, c2, c3, c4, c5, c6, c7, go_sem]) rfl
                  case s2 =>
                    intro w' ev hE hk ha hc hf
                    have e7 : ev (.tmp 7) = .pointer (some ⟨B7, 0, none⟩) := ha 7 (by decide)
                    have c0 : w'.cell? ⟨B7, 0, none⟩ = some (.int .i64 (d 0)) := hE.cellv (hb7.out.cell 0)
                    have c1 : w'.cell? ⟨B7, 1, none⟩ = some (.int .i64 (d 1)) := hE.cellv (hb7.out.cell 1)
                    have c2 : w'.cell? ⟨B7, 2, none⟩ = some (.int .i64 (d 2)) := hE.cellv (hb7.out.cell 2)
                    have c3 : w'.cell? ⟨B7, 3, none⟩ = some (.int .i64 (d 3)) := hE.cellv (hb7.out.cell 3)
                    have c4 : w'.cell? ⟨B7, 4, none⟩ = some (.int .i64 (d 4)) := hE.cellv (hb7.out.cell 4)
                    have c5 : w'.cell? ⟨B7, 5, none⟩ = some (.int .i64 (d 5)) := hE.cellv (hb7.out.cell 5)
                    have c6 : w'.cell? ⟨B7, 6, none⟩ = some (.int .i64 (d 6)) := hE.cellv (hb7.out.cell 6)
                    have c7 : w'.cell? ⟨B7, 7, none⟩ = some (.int .i64 (d 7)) := hE.cellv (hb7.out.cell 7)
                    exact opStep_val (by simp [execOp, e7, c0, c1, c2, c3, c4, c5, c6, c7, go_sem]) rfl
                  case s3 =>
                    intro w' ev hE hk ha hc hf
                    have f50 := hk.1 _ rfl
                    have e51 : ev (.tmp 51) = .agg #[.int .i64 (a 0), .int .i64 (a 1), .int .i64 (a 2), .int .i64 (a 3), .int .i64 (a 4), .int .i64 (a 5), .int .i64 (a 6), .int .i64 (a 7)] := hk.2.1 _ rfl
                    have e52 : ev (.tmp 52) = .agg #[.int .i64 (d 0), .int .i64 (d 1), .int .i64 (d 2), .int .i64 (d 3), .int .i64 (d 4), .int .i64 (d 5), .int .i64 (d 6), .int .i64 (d 7)] := hk.2.2.1 _ rfl
                    refine opStep_call (by simp [execOp, resolve, invoke, hf, e51, e52, go_sem]) (oCmp_any _ [] a d _ f50 hin0.out ha6.out hd6.out) ?_
                    rintro e w1 ⟨rfl, hE1⟩
                    exact ⟨_, rfl, hE1, by rw [oCmp_lex]⟩
                  case s4 =>
                    intro w' ev hE hk ha hc hf
                    have e6 : ev (.tmp 6) = .pointer (some ⟨B6, 0, none⟩) := ha 6 (by decide)
                    have c0 : w'.cell? ⟨B6, 0, none⟩ = some (.int .i64 (a 0)) := hE.cellv (hb6.out.cell 0)
                    have c1 : w'.cell? ⟨B6, 1, none⟩ = some (.int .i64 (a 1)) := hE.cellv (hb6.out.cell 1)
                    have c2 : w'.cell? ⟨B6, 2, none⟩ = some (.int .i64 (a 2)) := hE.cellv (hb6.out.cell 2)
                    have c3 : w'.cell? ⟨B6, 3, none⟩ = some (.int .i64 (a 3)) := hE.cellv (hb6.out.cell 3)
                    have c4 : w'.cell? ⟨B6, 4, none⟩ = some (.int .i64 (a 4)) := hE.cellv (hb6.out.cell 4)
                    have c5 : w'.cell? ⟨B6, 5, none⟩ = some (.int .i64 (a 5)) := hE.cellv (hb6.out.cell 5)
                    have c6 : w'.cell? ⟨B6, 6, none⟩ = some (.int .i64 (a 6)) := hE.cellv (hb6.out.cell 6)
                    have c7 : w'.cell? ⟨B6, 7, none⟩ = some (.int .i64 (a 7)) := hE.cellv (hb6.out.cell 7)
                    exact opStep_val (by simp [execOp, e6, c0, c1, c2, c3, c4, c5, c6, c7, go_sem]) rfl
                  case s5 =>
                    intro w' ev hE hk ha hc hf
                    have e7 : ev (.tmp 7) = .pointer (some ⟨B7, 0, none⟩) := ha 7 (by decide)
                    have c0 : w'.cell? ⟨B7, 0, none⟩ = some (.int .i64 (d 0)) := hE.cellv (hb7.out.cell 0)
                    have c1 : w'.cell? ⟨B7, 1, none⟩ = some (.int .i64 (d 1)) := hE.cellv (hb7.out.cell 1)
                    have c2 : w'.cell? ⟨B7, 2, none⟩ = some (.int .i64 (d 2)) := hE.cellv (hb7.out.cell 2)
                    have c3 : w'.cell? ⟨B7, 3, none⟩ = some (.int .i64 (d 3)) := hE.cellv (hb7.out.cell 3)
                    have c4 : w'.cell? ⟨B7, 4, none⟩ = some (.int .i64 (d 4)) := hE.cellv (hb7.out.cell 4)
                    have c5 : w'.cell? ⟨B7, 5, none⟩ = some (.int .i64 (d 5)) := hE.cellv (hb7.out.cell 5)
                    have c6 : w'.cell? ⟨B7, 6, none⟩ = some (.int .i64 (d 6)) := hE.cellv (hb7.out.cell 6)
                    have c7 : w'.cell? ⟨B7, 7, none⟩ = some (.int .i64 (d 7)) := hE.cellv (hb7.out.cell 7)
                    exact opStep_val (by simp [execOp, e7, c0, c1, c2, c3, c4, c5, c6, c7, go_sem]) rfl
                  case s6 =>
                    intro w' ev hE hk ha hc hf
                    have e54 : ev (.tmp 54) = .agg #[.int .i64 (a 0), .int .i64 (a 1), .int .i64 (a 2), .int .i64 (a 3), .int .i64 (a 4), .int .i64 (a 5), .int .i64 (a 6), .int .i64 (a 7)] := hk.1 _ rfl
                    have e55 : ev (.tmp 55) = .agg #[.int .i64 (d 0), .int .i64 (d 1), .int .i64 (d 2), .int .i64 (d 3), .int .i64 (d 4), .int .i64 (d 5), .int .i64 (d 6), .int .i64 (d 7)] := hk.2.1 _ rfl
                    refine opStep_call (by simp [execOp, resolve, invoke, hf, e54, e55, go_sem]) (mCmp_any a d _) ?_
                    rintro e w1 ⟨rfl, hE1⟩
                    exact ⟨_, rfl, hE1, rfl⟩
                  case s7 =>
                    intro w' ev hE hk ha hc hf
                    have e53 : ev (.tmp 53) = .int .i64 (lex8 a d) := hk.1 _ rfl
                    have e56 : ev (.tmp 56) = .int .i64 (lex8 a d) := hk.2.1 _ rfl
                    exact opStep_val (by simp [execOp, e53, e56, hc, go_sem]) rfl
                  case s8 =>
                    intro w' ev hE hk ha hc hf
                    have e57 : ev (.tmp 57) = .bool true := hk.1 _ rfl
                    exact opStep_val (by simp [execOp, e57, go_sem]) rfl
                  case s9 =>
                    intro w' ev hE hk ha hc hf
                    intro gv hg
                    have hgv := hg _ rfl
                    refine ⟨fun hgt => ?_, fun hgf => ?_⟩
                    · skip
                      refine opStep_call (by simp [execOp, resolve, invoke, hf, go_sem]) (Graded_any _) ?_
                      rintro e w1 ⟨A, c, rfl, hO, hE1⟩
                      exact ⟨_, rfl, hE1, hO.rows⟩
                    · exact absurd hgv hgf
                  case s10 =>
                    intro w' ev hE hk ha hc hf
                    intro gv hg
                    have hgv := hg _ rfl
                    refine ⟨fun hgt => ?_, fun hgf => ?_⟩
                    · skip
                      have e6 : ev (.tmp 6) = .pointer (some ⟨B6, 0, none⟩) := ha 6 (by decide)
                      have c0 : w'.cell? ⟨B6, 0, none⟩ = some (.int .i64 (a 0)) := hE.cellv (hb6.out.cell 0)
                      have c1 : w'.cell? ⟨B6, 1, none⟩ = some (.int .i64 (a 1)) := hE.cellv (hb6.out.cell 1)
                      have c2 : w'.cell? ⟨B6, 2, none⟩ = some (.int .i64 (a 2)) := hE.cellv (hb6.out.cell 2)
                      have c3 : w'.cell? ⟨B6, 3, none⟩ = some (.int .i64 (a 3)) := hE.cellv (hb6.out.cell 3)
                      have c4 : w'.cell? ⟨B6, 4, none⟩ = some (.int .i64 (a 4)) := hE.cellv (hb6.out.cell 4)
                      have c5 : w'.cell? ⟨B6, 5, none⟩ = some (.int .i64 (a 5)) := hE.cellv (hb6.out.cell 5)
                      have c6 : w'.cell? ⟨B6, 6, none⟩ = some (.int .i64 (a 6)) := hE.cellv (hb6.out.cell 6)
                      have c7 : w'.cell? ⟨B6, 7, none⟩ = some (.int .i64 (a 7)) := hE.cellv (hb6.out.cell 7)
                      exact opStep_val (by simp [execOp, e6, c0, c1, c2, c3, c4, c5, c6, c7, go_sem]) rfl
                    · exact absurd hgv hgf
                  case s11 =>
                    intro w' ev hE hk ha hc hf
                    intro gv hg
                    have hgv := hg _ rfl
                    refine ⟨fun hgt => ?_, fun hgf => ?_⟩
                    · skip
                      have e7 : ev (.tmp 7) = .pointer (some ⟨B7, 0, none⟩) := ha 7 (by decide)
                      have c0 : w'.cell? ⟨B7, 0, none⟩ = some (.int .i64 (d 0)) := hE.cellv (hb7.out.cell 0)
                      have c1 : w'.cell? ⟨B7, 1, none⟩ = some (.int .i64 (d 1)) := hE.cellv (hb7.out.cell 1)
                      have c2 : w'.cell? ⟨B7, 2, none⟩ = some (.int .i64 (d 2)) := hE.cellv (hb7.out.cell 2)
                      have c3 : w'.cell? ⟨B7, 3, none⟩ = some (.int .i64 (d 3)) := hE.cellv (hb7.out.cell 3)
                      have c4 : w'.cell? ⟨B7, 4, none⟩ = some (.int .i64 (d 4)) := hE.cellv (hb7.out.cell 4)
                      have c5 : w'.cell? ⟨B7, 5, none⟩ = some (.int .i64 (d 5)) := hE.cellv (hb7.out.cell 5)
                      have c6 : w'.cell? ⟨B7, 6, none⟩ = some (.int .i64 (d 6)) := hE.cellv (hb7.out.cell 6)
                      have c7 : w'.cell? ⟨B7, 7, none⟩ = some (.int .i64 (d 7)) := hE.cellv (hb7.out.cell 7)
                      exact opStep_val (by simp [execOp, e7, c0, c1, c2, c3, c4, c5, c6, c7, go_sem]) rfl
                    · exact absurd hgv hgf
                  case s12 =>
                    intro w' ev hE hk ha hc hf
                    intro gv hg
                    have hgv := hg _ rfl
                    refine ⟨fun hgt => ?_, fun hgf => ?_⟩
                    · skip
                      have f59 := hk.1 _ rfl
                      have e60 : ev (.tmp 60) = .agg #[.int .i64 (a 0), .int .i64 (a 1), .int .i64 (a 2), .int .i64 (a 3), .int .i64 (a 4), .int .i64 (a 5), .int .i64 (a 6), .int .i64 (a 7)] := hk.2.1 _ rfl
                      have e61 : ev (.tmp 61) = .agg #[.int .i64 (d 0), .int .i64 (d 1), .int .i64 (d 2), .int .i64 (d 3), .int .i64 (d 4), .int .i64 (d 5), .int .i64 (d 6), .int .i64 (d 7)] := hk.2.2.1 _ rfl
                      refine opStep_call (by simp [execOp, resolve, invoke, hf, e60, e61, go_sem]) (oCmp_any _ [onesOf 255] a d _ f59 hin1.out ha6.out hd6.out) ?_
                      rintro e w1 ⟨rfl, hE1⟩
                      exact ⟨_, rfl, hE1, by rw [hgr.out]⟩
                    · exact absurd hgv hgf
                  case s13 =>
                    intro w' ev hE hk ha hc hf
                    intro gv hg
                    have hgv := hg _ rfl
                    refine ⟨fun hgt => ?_, fun hgf => ?_⟩
                    · skip
                      have e8 : ev (.tmp 8) = .int .i64 (lex8 a d) := ha 8 (by decide)
                      exact opStep_val (by simp [execOp, e8, go_sem]) rfl
                    · exact absurd hgv hgf
                  case s14 =>
                    intro w' ev hE hk ha hc hf
                    intro gv hg
                    have hgv := hg _ rfl
                    refine ⟨fun hgt => ?_, fun hgf => ?_⟩
                    · skip
                      have e62 : ev (.tmp 62) = .int .i64 (lex8 a d) := hk.1 _ rfl
                      have e63 : ev (.tmp 63) = .int .i64 (lex8 a d) := hk.2.1 _ rfl
                      exact opStep_val (by simp [execOp, e62, e63, hc, go_sem]) rfl
                    · exact absurd hgv hgf
                  case s15 =>
                    intro w' ev hE hk ha hc hf
                    have e58 : ev (.tmp 58) = .bool true := hk.1 _ rfl
                    have e64 : ev (.tmp 64) = .bool true := hk.2.1 _ rfl
                    exact opStep_val (by simp [execOp, e58, e64, hc, go_sem]) rfl
                  case s16 =>
                    intro w' ev hE hk ha hc hf
                    have e65 : ev (.tmp 65) = .bool true := hk.1 _ rfl
                    exact opStep_val (by simp [execOp, e65, go_sem]) rfl
                  case s17 =>
                    intro w' ev hE hk ha hc hf
                    intro gv hg
                    have hgv := hg _ rfl
                    refine ⟨fun hgt => ?_, fun hgf => ?_⟩
                    · skip
                      refine opStep_call (by simp [execOp, resolve, invoke, hf, go_sem]) (Reverse_any _) ?_
                      rintro e w1 ⟨A, c, rfl, hO, hE1⟩
                      exact ⟨_, rfl, hE1, hO.rows⟩
                    · exact absurd hgv hgf
                  case s18 =>
                    intro w' ev hE hk ha hc hf
                    intro gv hg
                    have hgv := hg _ rfl
                    refine ⟨fun hgt => ?_, fun hgf => ?_⟩
                    · skip
                      have e6 : ev (.tmp 6) = .pointer (some ⟨B6, 0, none⟩) := ha 6 (by decide)
                      have c0 : w'.cell? ⟨B6, 0, none⟩ = some (.int .i64 (a 0)) := hE.cellv (hb6.out.cell 0)
                      have c1 : w'.cell? ⟨B6, 1, none⟩ = some (.int .i64 (a 1)) := hE.cellv (hb6.out.cell 1)
                      have c2 : w'.cell? ⟨B6, 2, none⟩ = some (.int .i64 (a 2)) := hE.cellv (hb6.out.cell 2)
                      have c3 : w'.cell? ⟨B6, 3, none⟩ = some (.int .i64 (a 3)) := hE.cellv (hb6.out.cell 3)
                      have c4 : w'.cell? ⟨B6, 4, none⟩ = some (.int .i64 (a 4)) := hE.cellv (hb6.out.cell 4)
                      have c5 : w'.cell? ⟨B6, 5, none⟩ = some (.int .i64 (a 5)) := hE.cellv (hb6.out.cell 5)
                      have c6 : w'.cell? ⟨B6, 6, none⟩ = some (.int .i64 (a 6)) := hE.cellv (hb6.out.cell 6)
                      have c7 : w'.cell? ⟨B6, 7, none⟩ = some (.int .i64 (a 7)) := hE.cellv (hb6.out.cell 7)
                      exact opStep_val (by simp [execOp, e6, c0, c1, c2, c3, c4, c5, c6, c7, go_sem]) rfl
                    · exact absurd hgv hgf
                  case s19 =>
                    intro w' ev hE hk ha hc hf
                    intro gv hg
                    have hgv := hg _ rfl
                    refine ⟨fun hgt => ?_, fun hgf => ?_⟩
                    · skip
                      have e7 : ev (.tmp 7) = .pointer (some ⟨B7, 0, none⟩) := ha 7 (by decide)
                      have c0 : w'.cell? ⟨B7, 0, none⟩ = some (.int .i64 (d 0)) := hE.cellv (hb7.out.cell 0)
                      have c1 : w'.cell? ⟨B7, 1, none⟩ = some (.int .i64 (d 1)) := hE.cellv (hb7.out.cell 1)
                      have c2 : w'.cell? ⟨B7, 2, none⟩ = some (.int .i64 (d 2)) := hE.cellv (hb7.out.cell 2)
                      have c3 : w'.cell? ⟨B7, 3, none⟩ = some (.int .i64 (d 3)) := hE.cellv (hb7.out.cell 3)
                      have c4 : w'.cell? ⟨B7, 4, none⟩ = some (.int .i64 (d 4)) := hE.cellv (hb7.out.cell 4)
                      have c5 : w'.cell? ⟨B7, 5, none⟩ = some (.int .i64 (d 5)) := hE.cellv (hb7.out.cell 5)
                      have c6 : w'.cell? ⟨B7, 6, none⟩ = some (.int .i64 (d 6)) := hE.cellv (hb7.out.cell 6)
                      have c7 : w'.cell? ⟨B7, 7, none⟩ = some (.int .i64 (d 7)) := hE.cellv (hb7.out.cell 7)
                      exact opStep_val (by simp [execOp, e7, c0, c1, c2, c3, c4, c5, c6, c7, go_sem]) rfl
                    · exact absurd hgv hgf
                  case s20 =>
                    intro w' ev hE hk ha hc hf
                    intro gv hg
                    have hgv := hg _ rfl
                    refine ⟨fun hgt => ?_, fun hgf => ?_⟩
                    · skip
                      have f67 := hk.1 _ rfl
                      have e68 : ev (.tmp 68) = .agg #[.int .i64 (a 0), .int .i64 (a 1), .int .i64 (a 2), .int .i64 (a 3), .int .i64 (a 4), .int .i64 (a 5), .int .i64 (a 6), .int .i64 (a 7)] := hk.2.1 _ rfl
                      have e69 : ev (.tmp 69) = .agg #[.int .i64 (d 0), .int .i64 (d 1), .int .i64 (d 2), .int .i64 (d 3), .int .i64 (d 4), .int .i64 (d 5), .int .i64 (d 6), .int .i64 (d 7)] := hk.2.2.1 _ rfl
                      refine opStep_call (by simp [execOp, resolve, invoke, hf, e68, e69, go_sem]) (oCmp_any _ revRows a d _ f67 hin2.out ha6.out hd6.out) ?_
                      rintro e w1 ⟨rfl, hE1⟩
                      exact ⟨_, rfl, hE1, by rw [hrv.out]⟩
                    · exact absurd hgv hgf
                  case s21 =>
                    intro w' ev hE hk ha hc hf
                    intro gv hg
                    have hgv := hg _ rfl
                    refine ⟨fun hgt => ?_, fun hgf => ?_⟩
                    · skip
                      have e9 : ev (.tmp 9) = .int .i64 (lastTo a d 8) := ha 9 (by decide)
                      exact opStep_val (by simp [execOp, e9, go_sem]) rfl
                    · exact absurd hgv hgf
                  case s22 =>
                    intro w' ev hE hk ha hc hf
                    intro gv hg
                    have hgv := hg _ rfl
                    refine ⟨fun hgt => ?_, fun hgf => ?_⟩
                    · skip
                      have e70 : ev (.tmp 70) = .int .i64 (lastTo a d 8) := hk.1 _ rfl
                      have e71 : ev (.tmp 71) = .int .i64 (lastTo a d 8) := hk.2.1 _ rfl
                      exact opStep_val (by simp [execOp, e70, e71, hc, go_sem]) rfl
                    · exact absurd hgv hgf
                  case s23 =>
                    intro w' ev hE hk ha hc hf
                    have e66 : ev (.tmp 66) = .bool true := hk.1 _ rfl
                    have e72 : ev (.tmp 72) = .bool true := hk.2.1 _ rfl
                    exact opStep_val (by simp [execOp, e66, e72, hc, go_sem]) rfl
                  case s24 =>
                    intro w' ev hE hk ha hc hf
                    have e73 : ev (.tmp 73) = .bool true := hk.1 _ rfl
                    exact opStep_val (by simp [execOp, e73, go_sem]) rfl
                  case s25 =>
                    intro w' ev hE hk ha hc hf
                    intro gv hg
                    have hgv := hg _ rfl
                    refine ⟨fun hgt => ?_, fun hgf => ?_⟩
                    · skip
                      have e5 : ev (.tmp 5) = .bool true := ha 5 (by decide)
                      exact opStep_val (by simp [execOp, e5, go_sem]) rfl
                    · exact absurd hgv hgf
                  case s26 =>
                    intro w' ev hE hk ha hc hf
                    have e74 : ev (.tmp 74) = .bool true := hk.1 _ rfl
                    have e75 : ev (.tmp 75) = .bool true := hk.2.1 _ rfl
                    exact opStep_val (by simp [execOp, e74, e75, hc, go_sem]) rfl
                case fin =>
                  intro g w' hE hF
                  have e26 := hF 26 _ rfl
                  simp only [List.length_cons, List.length_nil, Nat.reduceAdd, List.drop_succ_cons, List.drop_zero, List.take_succ_cons, List.take_zero, putG, Act.put, List.setIfInBounds_toArray, List.set_cons_succ, List.set_cons_zero, e26]
                  go_wp2
                  go_ret
                  exact ⟨rfl, hEw.out.trans ((Ext.refl _).drew.trans hE)⟩
          · have hgr : Hid (oCmp [onesOf 255] a d = 1) := hide (by rw [ocg.out, if_neg (by omega), if_pos hlt])
            have hrv : Hid (oCmp revRows a d = 1) := hide (by rw [ocr.out, if_neg (by omega), if_pos hlt])
            have h1 : decide (sumTo a 8 < sumTo d 8) = false := by simp; omega
            have h2 : decide (sumTo d 8 < sumTo a 8) = true := by simpa using hlt
            have h3 : ¬ sumTo a 8 < sumTo d 8 := by omega
            have h4 : sumTo d 8 < sumTo a 8 := hlt
            replace h1 := hide h1
            replace h2 := hide h2
            clear ocg ocr hlt
            go_upto_region 10 with (fail)
            refine wp_region_v (by kernel_rfl) [[], [(40, 0)], [], [(42, 2)], [(41, 1), (43, 3)]] [[], [0], [], [0, 1, 2], [0, 1, 2, 3]]
              [fun v _ => v = .agg #[.int .i64 (a 0), .int .i64 (a 1), .int .i64 (a 2), .int .i64 (a 3), .int .i64 (a 4), .int .i64 (a 5), .int .i64 (a 6), .int .i64 (a 7)], fun v _ => v = .int .i64 (sumTo a 8), fun v _ => v = .agg #[.int .i64 (d 0), .int .i64 (d 1), .int .i64 (d 2), .int .i64 (d 3), .int .i64 (d 4), .int .i64 (d 5), .int .i64 (d 6), .int .i64 (d 7)], fun v _ => v = .int .i64 (sumTo d 8), fun v _ => v = .bool false]
              rfl (by kernel_rfl) (by kernel_rfl) ?stab ?steps ?fin
            case stab => exact .cons (Stab.eq _) (.cons (Stab.eq _) (.cons (Stab.eq _) (.cons (Stab.eq _) (.cons (Stab.eq _) .nil))))
            case steps =>
              refine .cons ?s0 (.cons ?s1 (.cons ?s2 (.cons ?s3 (.cons ?s4 .nil))))
              case s0 =>
                intro w' ev hE hk ha hc hf
                have e6 : ev (.tmp 6) = .pointer (some ⟨B6, 0, none⟩) := ha 6 (by decide)
                have c0 : w'.cell? ⟨B6, 0, none⟩ = some (.int .i64 (a 0)) := hE.cellv (hb6.out.cell 0)
                have c1 : w'.cell? ⟨B6, 1, none⟩ = some (.int .i64 (a 1)) := hE.cellv (hb6.out.cell 1)
                have c2 : w'.cell? ⟨B6, 2, none⟩ = some (.int .i64 (a 2)) := hE.cellv (hb6.out.cell 2)
                have c3 : w'.cell? ⟨B6, 3, none⟩ = some (.int .i64 (a 3)) := hE.cellv (hb6.out.cell 3)
                have c4 : w'.cell? ⟨B6, 4, none⟩ = some (.int .i64 (a 4)) := hE.cellv (hb6.out.cell 4)
                have c5 : w'.cell? ⟨B6, 5, none⟩ = some (.int .i64 (a 5)) := hE.cellv (hb6.out.cell 5)
                have c6 : w'.cell? ⟨B6, 6, none⟩ = some (.int .i64 (a 6)) := hE.cellv (hb6.out.cell 6)
                have c7 : w'.cell? ⟨B6, 7, none⟩ = some (.int .i64 (a 7)) := hE.cellv (hb6.out.cell 7)
                exact opStep_val (by simp [execOp, e6, c0, c1, c2, c3, c4, c5, c6, c7, go_sem]) rfl
              case s1 =>
                intro w' ev hE hk ha hc hf
                have e40 : ev (.tmp 40) = .agg #[.int .i64 (a 0), .int .i64 (a 1), .int .i64 (a 2), .int .i64 (a 3), .int .i64 (a 4), .int .i64 (a 5), .int .i64 (a 6), .int .i64 (a 7)] := hk.1 _ rfl
                refine opStep_call (by simp [execOp, resolve, invoke, hf, e40, go_sem]) (Degree_any a _ ha6.out) ?_
                rintro e w1 ⟨rfl, hE1⟩
                exact ⟨_, rfl, hE1, rfl⟩
              case s2 =>
                intro w' ev hE hk ha hc hf
                have e7 : ev (.tmp 7) = .pointer (some ⟨B7, 0, none⟩) := ha 7 (by decide)
                have c0 : w'.cell? ⟨B7, 0, none⟩ = some (.int .i64 (d 0)) := hE.cellv (hb7.out.cell 0)
                have c1 : w'.cell? ⟨B7, 1, none⟩ = some (.int .i64 (d 1)) := hE.cellv (hb7.out.cell 1)
                have c2 : w'.cell? ⟨B7, 2, none⟩ = some (.int .i64 (d 2)) := hE.cellv (hb7.out.cell 2)
                have c3 : w'.cell? ⟨B7, 3, none⟩ = some (.int .i64 (d 3)) := hE.cellv (hb7.out.cell 3)
                have c4 : w'.cell? ⟨B7, 4, none⟩ = some (.int .i64 (d 4)) := hE.cellv (hb7.out.cell 4)
                have c5 : w'.cell? ⟨B7, 5, none⟩ = some (.int .i64 (d 5)) := hE.cellv (hb7.out.cell 5)
                have c6 : w'.cell? ⟨B7, 6, none⟩ = some (.int .i64 (d 6)) := hE.cellv (hb7.out.cell 6)
                have c7 : w'.cell? ⟨B7, 7, none⟩ = some (.int .i64 (d 7)) := hE.cellv (hb7.out.cell 7)
                exact opStep_val (by simp [execOp, e7, c0, c1, c2, c3, c4, c5, c6, c7, go_sem]) rfl
              case s3 =>
                intro w' ev hE hk ha hc hf
                have e42 : ev (.tmp 42) = .agg #[.int .i64 (d 0), .int .i64 (d 1), .int .i64 (d 2), .int .i64 (d 3), .int .i64 (d 4), .int .i64 (d 5), .int .i64 (d 6), .int .i64 (d 7)] := hk.1 _ rfl
                refine opStep_call (by simp [execOp, resolve, invoke, hf, e42, go_sem]) (Degree_any d _ hd6.out) ?_
                rintro e w1 ⟨rfl, hE1⟩
                exact ⟨_, rfl, hE1, rfl⟩
              case s4 =>
                intro w' ev hE hk ha hc hf
                have e41 : ev (.tmp 41) = .int .i64 (sumTo a 8) := hk.1 _ rfl
                have e43 : ev (.tmp 43) = .int .i64 (sumTo d 8) := hk.2.1 _ rfl
                exact opStep_val (by simp [execOp, e41, e43, h1.out, h3, go_sem]) rfl
            case fin =>
              intro g w' hE hF
              have e4 := hF 4 _ rfl
              simp only [List.length_cons, List.length_nil, Nat.reduceAdd, List.drop_succ_cons, List.drop_zero, List.take_succ_cons, List.take_zero, putG, Act.put, List.setIfInBounds_toArray, List.set_cons_succ, List.set_cons_zero, e4]
              replace hE := hide ((Ext.refl _).drew.trans hE)
              replace hb6 := hide (hb6.out.ext hE.out)
              replace hb7 := hide (hb7.out.ext hE.out)
              replace hEw := hide (hEw.out.trans hE.out)
              clear hF hE
              clear e4
              go_upto_region 12 with (fail)
              refine wp_region_v (by kernel_rfl) [[], [(45, 0)], [], [(47, 2)], [(46, 1), (48, 3)]] [[], [0], [], [0, 1, 2], [0, 1, 2, 3]]
                [fun v _ => v = .agg #[.int .i64 (a 0), .int .i64 (a 1), .int .i64 (a 2), .int .i64 (a 3), .int .i64 (a 4), .int .i64 (a 5), .int .i64 (a 6), .int .i64 (a 7)], fun v _ => v = .int .i64 (sumTo a 8), fun v _ => v = .agg #[.int .i64 (d 0), .int .i64 (d 1), .int .i64 (d 2), .int .i64 (d 3), .int .i64 (d 4), .int .i64 (d 5), .int .i64 (d 6), .int .i64 (d 7)], fun v _ => v = .int .i64 (sumTo d 8), fun v _ => v = .bool true]
                rfl (by kernel_rfl) (by kernel_rfl) ?stab ?steps ?fin
              case stab => exact .cons (Stab.eq _) (.cons (Stab.eq _) (.cons (Stab.eq _) (.cons (Stab.eq _) (.cons (Stab.eq _) .nil))))
              case steps =>
                refine .cons ?s0 (.cons ?s1 (.cons ?s2 (.cons ?s3 (.cons ?s4 .nil))))
                case s0 =>
                  intro w' ev hE hk ha hc hf
                  have e6 : ev (.tmp 6) = .pointer (some ⟨B6, 0, none⟩) := ha 6 (by decide)
                  have c0 : w'.cell? ⟨B6, 0, none⟩ = some (.int .i64 (a 0)) := hE.cellv (hb6.out.cell 0)
                  have c1 : w'.cell? ⟨B6, 1, none⟩ = some (.int .i64 (a 1)) := hE.cellv (hb6.out.cell 1)
                  have c2 : w'.cell? ⟨B6, 2, none⟩ = some (.int .i64 (a 2)) := hE.cellv (hb6.out.cell 2)
                  have c3 : w'.cell? ⟨B6, 3, none⟩ = some (.int .i64 (a 3)) := hE.cellv (hb6.out.cell 3)
                  have c4 : w'.cell? ⟨B6, 4, none⟩ = some (.int .i64 (a 4)) := hE.cellv (hb6.out.cell 4)
                  have c5 : w'.cell? ⟨B6, 5, none⟩ = some (.int .i64 (a 5)) := hE.cellv (hb6.out.cell 5)
                  have c6 : w'.cell? ⟨B6, 6, none⟩ = some (.int .i64 (a 6)) := hE.cellv (hb6.out.cell 6)
                  have c7 : w'.cell? ⟨B6, 7, none⟩ = some (.int .i64 (a 7)) := hE.cellv (hb6.out.cell 7)
                  exact opStep_val (by simp [execOp, e6, c0, c1, c2, c3, c4, c5, c6, c7, go_sem]) rfl
                case s1 =>
                  intro w' ev hE hk ha hc hf
                  have e45 : ev (.tmp 45) = .agg #[.int .i64 (a 0), .int .i64 (a 1), .int .i64 (a 2), .int .i64 (a 3), .int .i64 (a 4), .int .i64 (a 5), .int .i64 (a 6), .int .i64 (a 7)] := hk.1 _ rfl
                  refine opStep_call (by simp [execOp, resolve, invoke, hf, e45, go_sem]) (Degree_any a _ ha6.out) ?_
                  rintro e w1 ⟨rfl, hE1⟩
                  exact ⟨_, rfl, hE1, rfl⟩
                case s2 =>
                  intro w' ev hE hk ha hc hf
                  have e7 : ev (.tmp 7) = .pointer (some ⟨B7, 0, none⟩) := ha 7 (by decide)
                  have c0 : w'.cell? ⟨B7, 0, none⟩ = some (.int .i64 (d 0)) := hE.cellv (hb7.out.cell 0)
                  have c1 : w'.cell? ⟨B7, 1, none⟩ = some (.int .i64 (d 1)) := hE.cellv (hb7.out.cell 1)
                  have c2 : w'.cell? ⟨B7, 2, none⟩ = some (.int .i64 (d 2)) := hE.cellv (hb7.out.cell 2)
                  have c3 : w'.cell? ⟨B7, 3, none⟩ = some (.int .i64 (d 3)) := hE.cellv (hb7.out.cell 3)
                  have c4 : w'.cell? ⟨B7, 4, none⟩ = some (.int .i64 (d 4)) := hE.cellv (hb7.out.cell 4)
                  have c5 : w'.cell? ⟨B7, 5, none⟩ = some (.int .i64 (d 5)) := hE.cellv (hb7.out.cell 5)
                  have c6 : w'.cell? ⟨B7, 6, none⟩ = some (.int .i64 (d 6)) := hE.cellv (hb7.out.cell 6)
                  have c7 : w'.cell? ⟨B7, 7, none⟩ = some (.int .i64 (d 7)) := hE.cellv (hb7.out.cell 7)
                  exact opStep_val (by simp [execOp, e7, c0, c1, c2, c3, c4, c5, c6, c7, go_sem]) rfl
                case s3 =>
                  intro w' ev hE hk ha hc hf
                  have e47 : ev (.tmp 47) = .agg #[.int .i64 (d 0), .int .i64 (d 1), .int .i64 (d 2), .int .i64 (d 3), .int .i64 (d 4), .int .i64 (d 5), .int .i64 (d 6), .int .i64 (d 7)] := hk.1 _ rfl
                  refine opStep_call (by simp [execOp, resolve, invoke, hf, e47, go_sem]) (Degree_any d _ hd6.out) ?_
                  rintro e w1 ⟨rfl, hE1⟩
                  exact ⟨_, rfl, hE1, rfl⟩
                case s4 =>
                  intro w' ev hE hk ha hc hf
                  have e46 : ev (.tmp 46) = .int .i64 (sumTo a 8) := hk.1 _ rfl
                  have e48 : ev (.tmp 48) = .int .i64 (sumTo d 8) := hk.2.1 _ rfl
                  exact opStep_val (by simp [execOp, e46, e48, h2.out, h4, go_sem]) rfl
              case fin =>
                intro g w' hE hF
                have e4 := hF 4 _ rfl
                simp only [List.length_cons, List.length_nil, Nat.reduceAdd, List.drop_succ_cons, List.drop_zero, List.take_succ_cons, List.take_zero, putG, Act.put, List.setIfInBounds_toArray, List.set_cons_succ, List.set_cons_zero, e4]
                replace hE := hide ((Ext.refl _).drew.trans hE)
                replace hb6 := hide (hb6.out.ext hE.out)
                replace hb7 := hide (hb7.out.ext hE.out)
                replace hEw := hide (hEw.out.trans hE.out)
                clear hF hE
                clear e4
                go_upto_region 14 with (fail)
                refine wp_region_v (by kernel_rfl) [[], [], [], [(50, 0), (51, 1), (52, 2)], [], [], [(54, 4), (55, 5)], [(53, 3), (56, 6)], [(57, 7)], [], [], [], [(59, 9), (60, 10), (61, 11)], [], [(62, 12), (63, 13)], [(58, 8), (64, 14)], [(65, 15)], [], [], [], [(67, 17), (68, 18), (69, 19)], [], [(70, 20), (71, 21)], [(66, 16), (72, 22)], [(73, 23)], [], [(74, 24), (75, 25)]] [[], [], [], [0, 1, 2], [], [], [0, 1, 2, 3, 4, 5], [0, 1, 2, 3, 4, 5, 6], [0, 1, 2, 3, 4, 5, 6, 7], [0, 1, 2, 3, 4, 5, 6, 7, 8], [0, 1, 2, 3, 4, 5, 6, 7, 8], [0, 1, 2, 3, 4, 5, 6, 7, 8], [0, 1, 2, 3, 4, 5, 6, 7, 8, 9, 10, 11], [0, 1, 2, 3, 4, 5, 6, 7, 8], [0, 1, 2, 3, 4, 5, 6, 7, 8, 9, 10, 11, 12, 13], [0, 1, 2, 3, 4, 5, 6, 7, 8, 9, 10, 11, 12, 13, 14], [0, 1, 2, 3, 4, 5, 6, 7, 8, 9, 10, 11, 12, 13, 14, 15], [0, 1, 2, 3, 4, 5, 6, 7, 8, 9, 10, 11, 12, 13, 14, 15, 16], [0, 1, 2, 3, 4, 5, 6, 7, 8, 9, 10, 11, 12, 13, 14, 15, 16], [0, 1, 2, 3, 4, 5, 6, 7, 8, 9, 10, 11, 12, 13, 14, 15, 16], [0, 1, 2, 3, 4, 5, 6, 7, 8, 9, 10, 11, 12, 13, 14, 15, 16, 17, 18, 19], [0, 1, 2, 3, 4, 5, 6, 7, 8, 9, 10, 11, 12, 13, 14, 15, 16], [0, 1, 2, 3, 4, 5, 6, 7, 8, 9, 10, 11, 12, 13, 14, 15, 16, 17, 18, 19, 20, 21], [0, 1, 2, 3, 4, 5, 6, 7, 8, 9, 10, 11, 12, 13, 14, 15, 16, 17, 18, 19, 20, 21, 22], [0, 1, 2, 3, 4, 5, 6, 7, 8, 9, 10, 11, 12, 13, 14, 15, 16, 17, 18, 19, 20, 21, 22, 23], [0, 1, 2, 3, 4, 5, 6, 7, 8, 9, 10, 11, 12, 13, 14, 15, 16, 17, 18, 19, 20, 21, 22, 23, 24], [0, 1, 2, 3, 4, 5, 6, 7, 8, 9, 10, 11, 12, 13, 14, 15, 16, 17, 18, 19, 20, 21, 22, 23, 24, 25]]
                  [fun v w' => RowsAt .i64 34 w' v [], fun v _ => v = .agg #[.int .i64 (a 0), .int .i64 (a 1), .int .i64 (a 2), .int .i64 (a 3), .int .i64 (a 4), .int .i64 (a 5), .int .i64 (a 6), .int .i64 (a 7)], fun v _ => v = .agg #[.int .i64 (d 0), .int .i64 (d 1), .int .i64 (d 2), .int .i64 (d 3), .int .i64 (d 4), .int .i64 (d 5), .int .i64 (d 6), .int .i64 (d 7)], fun v _ => v = .int .i64 (lex8 a d), fun v _ => v = .agg #[.int .i64 (a 0), .int .i64 (a 1), .int .i64 (a 2), .int .i64 (a 3), .int .i64 (a 4), .int .i64 (a 5), .int .i64 (a 6), .int .i64 (a 7)], fun v _ => v = .agg #[.int .i64 (d 0), .int .i64 (d 1), .int .i64 (d 2), .int .i64 (d 3), .int .i64 (d 4), .int .i64 (d 5), .int .i64 (d 6), .int .i64 (d 7)], fun v _ => v = .int .i64 (lex8 a d), fun v _ => v = .bool true, fun v _ => v = .bool true, fun v w' => RowsAt .i64 34 w' v [onesOf 255], fun v _ => v = .agg #[.int .i64 (a 0), .int .i64 (a 1), .int .i64 (a 2), .int .i64 (a 3), .int .i64 (a 4), .int .i64 (a 5), .int .i64 (a 6), .int .i64 (a 7)], fun v _ => v = .agg #[.int .i64 (d 0), .int .i64 (d 1), .int .i64 (d 2), .int .i64 (d 3), .int .i64 (d 4), .int .i64 (d 5), .int .i64 (d 6), .int .i64 (d 7)], fun v _ => v = .int .i64 1, fun v _ => v = .int .i64 1, fun v _ => v = .bool true, fun v _ => v = .bool true, fun v _ => v = .bool true, fun v w' => RowsAt .i64 34 w' v revRows, fun v _ => v = .agg #[.int .i64 (a 0), .int .i64 (a 1), .int .i64 (a 2), .int .i64 (a 3), .int .i64 (a 4), .int .i64 (a 5), .int .i64 (a 6), .int .i64 (a 7)], fun v _ => v = .agg #[.int .i64 (d 0), .int .i64 (d 1), .int .i64 (d 2), .int .i64 (d 3), .int .i64 (d 4), .int .i64 (d 5), .int .i64 (d 6), .int .i64 (d 7)], fun v _ => v = .int .i64 1, fun v _ => v = .int .i64 1, fun v _ => v = .bool true, fun v _ => v = .bool true, fun v _ => v = .bool true, fun v _ => v = .bool true, fun v _ => v = .bool true]
                  rfl (by kernel_rfl) (by kernel_rfl) ?stab ?steps ?fin
                case stab => exact .cons (fun _ _ _ he h => h.ext he) (.cons (Stab.eq _) (.cons (Stab.eq _) (.cons (Stab.eq _) (.cons (Stab.eq _) (.cons (Stab.eq _) (.cons (Stab.eq _) (.cons (Stab.eq _) (.cons (Stab.eq _) (.cons (fun _ _ _ he h => h.ext he) (.cons (Stab.eq _) (.cons (Stab.eq _) (.cons (Stab.eq _) (.cons (Stab.eq _) (.cons (Stab.eq _) (.cons (Stab.eq _) (.cons (Stab.eq _) (.cons (fun _ _ _ he h => h.ext he) (.cons (Stab.eq _) (.cons (Stab.eq _) (.cons (Stab.eq _) (.cons (Stab.eq _) (.cons (Stab.eq _) (.cons (Stab.eq _) (.cons (Stab.eq _) (.cons (Stab.eq _) (.cons (Stab.eq _) .nil))))))))))))))))))))))))))
                case steps =>
                  refine .cons ?s0 (.cons ?s1 (.cons ?s2 (.cons ?s3 (.cons ?s4 (.cons ?s5 (.cons ?s6 (.cons ?s7 (.cons ?s8 (.cons ?s9 (.cons ?s10 (.cons ?s11 (.cons ?s12 (.cons ?s13 (.cons ?s14 (.cons ?s15 (.cons ?s16 (.cons ?s17 (.cons ?s18 (.cons ?s19 (.cons ?s20 (.cons ?s21 (.cons ?s22 (.cons ?s23 (.cons ?s24 (.cons ?s25 (.cons ?s26 .nil))))))))))))))))))))))))))
                  case s0 =>
                    intro w' ev hE hk ha hc hf
                    refine opStep_call (by simp [execOp, resolve, invoke, hf, go_sem]) (Lex_any _) ?_
                    rintro e w1 ⟨A, c, rfl, hO, hE1⟩
                    exact ⟨_, rfl, hE1, hO.rows⟩
                  case s1 =>
                    intro w' ev hE hk ha hc hf
                    have e6 : ev (.tmp 6) = .pointer (some ⟨B6, 0, none⟩) := ha 6 (by decide)
                    have c0 : w'.cell? ⟨B6, 0, none⟩ = some (.int .i64 (a 0)) := hE.cellv (hb6.out.cell 0)
                    have c1 : w'.cell? ⟨B6, 1, none⟩ = some (.int .i64 (a 1)) := hE.cellv (hb6.out.cell 1)
                    have c2 : w'.cell? ⟨B6, 2, none⟩ = some (.int .i64 (a 2)) := hE.cellv (hb6.out.cell 2)
                    have c3 : w'.cell? ⟨B6, 3, none⟩ = some (.int .i64 (a 3)) := hE.cellv (hb6.out.cell 3)
                    have c4 : w'.cell? ⟨B6, 4, none⟩ = some (.int .i64 (a 4)) := hE.cellv (hb6.out.cell 4)
                    have c5 : w'.cell? ⟨B6, 5, none⟩ = some (.int .i64 (a 5)) := hE.cellv (hb6.out.cell 5)
                    have c6 : w'.cell? ⟨B6, 6, none⟩ = some (.int .i64 (a 6)) := hE.cellv (hb6.out.cell 6)
                    have c7 : w'.cell? ⟨B6, 7, none⟩ = some (.int .i64 (a 7)) := hE.cellv (hb6.out.cell 7)
                    exact opStep_val (by simp [execOp, e6, c0, c1, c2, c3, c4, c5, c6, c7, go_sem]) rfl
                  case s2 =>
                    intro w' ev hE hk ha hc hf
                    have e7 : ev (.tmp 7) = .pointer (some ⟨B7, 0, none⟩) := ha 7 (by decide)
                    have c0 : w'.cell? ⟨B7, 0, none⟩ = some (.int .i64 (d 0)) := hE.cellv (hb7.out.cell 0)
                    have c1 : w'.cell? ⟨B7, 1, none⟩ = some (.int .i64 (d 1)) := hE.cellv (hb7.out.cell 1)
                    have c2 : w'.cell? ⟨B7, 2, none⟩ = some (.int .i64 (d 2)) := hE.cellv (hb7.out.cell 2)
                    have c3 : w'.cell? ⟨B7, 3, none⟩ = some (.int .i64 (d 3)) := hE.cellv (hb7.out.cell 3)
                    have c4 : w'.cell? ⟨B7, 4, none⟩ = some (.int .i64 (d 4)) := hE.cellv (hb7.out.cell 4)
                    have c5 : w'.cell? ⟨B7, 5, none⟩ = some (.int .i64 (d 5)) := hE.cellv (hb7.out.cell 5)
                    have c6 : w'.cell? ⟨B7, 6, none⟩ = some (.int .i64 (d 6)) := hE.cellv (hb7.out.cell 6)
                    have c7 : w'.cell? ⟨B7, 7, none⟩ = some (.int .i64 (d 7)) := hE.cellv (hb7.out.cell 7)
                    exact opStep_val (by simp [execOp, e7, c0, c1, c2, c3, c4, c5, c6, c7, go_sem]) rfl
                  case s3 =>
                    intro w' ev hE hk ha hc hf
                    have f50 := hk.1 _ rfl
                    have e51 : ev (.tmp 51) = .agg #[.int .i64 (a 0), .int .i64 (a 1), .int .i64 (a 2), .int .i64 (a 3), .int .i64 (a 4), .int .i64 (a 5), .int .i64 (a 6), .int .i64 (a 7)] := hk.2.1 _ rfl
                    have e52 : ev (.tmp 52) = .agg #[.int .i64 (d 0), .int .i64 (d 1), .int .i64 (d 2), .int .i64 (d 3), .int .i64 (d 4), .int .i64 (d 5), .int .i64 (d 6), .int .i64 (d 7)] := hk.2.2.1 _ rfl
                    refine opStep_call (by simp [execOp, resolve, invoke, hf, e51, e52, go_sem]) (oCmp_any _ [] a d _ f50 hin0.out ha6.out hd6.out) ?_
                    rintro e w1 ⟨rfl, hE1⟩
                    exact ⟨_, rfl, hE1, by rw [oCmp_lex]⟩
                  case s4 =>
                    intro w' ev hE hk ha hc hf
                    have e6 : ev (.tmp 6) = .pointer (some ⟨B6, 0, none⟩) := ha 6 (by decide)
                    have c0 : w'.cell? ⟨B6, 0, none⟩ = some (.int .i64 (a 0)) := hE.cellv (hb6.out.cell 0)
                    have c1 : w'.cell? ⟨B6, 1, none⟩ = some (.int .i64 (a 1)) := hE.cellv (hb6.out.cell 1)
                    have c2 : w'.cell? ⟨B6, 2, none⟩ = some (.int .i64 (a 2)) := hE.cellv (hb6.out.cell 2)
                    have c3 : w'.cell? ⟨B6, 3, none⟩ = some (.int .i64 (a 3)) := hE.cellv (hb6.out.cell 3)
                    have c4 : w'.cell? ⟨B6, 4, none⟩ = some (.int .i64 (a 4)) := hE.cellv (hb6.out.cell 4)
                    have c5 : w'.cell? ⟨B6, 5, none⟩ = some (.int .i64 (a 5)) := hE.cellv (hb6.out.cell 5)
                    have c6 : w'.cell? ⟨B6, 6, none⟩ = some (.int .i64 (a 6)) := hE.cellv (hb6.out.cell 6)
                    have c7 : w'.cell? ⟨B6, 7, none⟩ = some (.int .i64 (a 7)) := hE.cellv (hb6.out.cell 7)
                    exact opStep_val (by simp [execOp, e6, c0, c1, c2, c3, c4, c5, c6, c7, go_sem]) rfl
                  case s5 =>
                    intro w' ev hE hk ha hc hf
                    have e7 : ev (.tmp 7) = .pointer (some ⟨B7, 0, none⟩) := ha 7 (by decide)
                    have c0 : w'.cell? ⟨B7, 0, none⟩ = some (.int .i64 (d 0)) := hE.cellv (hb7.out.cell 0)
                    have c1 : w'.cell? ⟨B7, 1, none⟩ = some (.int .i64 (d 1)) := hE.cellv (hb7.out.cell 1)
                    have c2 : w'.cell? ⟨B7, 2, none⟩ = some (.int .i64 (d 2)) := hE.cellv (hb7.out.cell 2)
                    have c3 : w'.cell? ⟨B7, 3, none⟩ = some (.int .i64 (d 3)) := hE.cellv (hb7.out.cell 3)
                    have c4 : w'.cell? ⟨B7, 4, none⟩ = some (.int .i64 (d 4)) := hE.cellv (hb7.out.cell 4)
                    have c5 : w'.cell? ⟨B7, 5, none⟩ = some (.int .i64 (d 5)) := hE.cellv (hb7.out.cell 5)
                    have c6 : w'.cell? ⟨B7, 6, none⟩ = some (.int .i64 (d 6)) := hE.cellv (hb7.out.cell 6)
                    have c7 : w'.cell? ⟨B7, 7, none⟩ = some (.int .i64 (d 7)) := hE.cellv (hb7.out.cell 7)
                    exact opStep_val (by simp [execOp, e7, c0, c1, c2, c3, c4, c5, c6, c7, go_sem]) rfl
                  case s6 =>
                    intro w' ev hE hk ha hc hf
                    have e54 : ev (.tmp 54) = .agg #[.int .i64 (a 0), .int .i64 (a 1), .int .i64 (a 2), .int .i64 (a 3), .int .i64 (a 4), .int .i64 (a 5), .int .i64 (a 6), .int .i64 (a 7)] := hk.1 _ rfl
                    have e55 : ev (.tmp 55) = .agg #[.int .i64 (d 0), .int .i64 (d 1), .int .i64 (d 2), .int .i64 (d 3), .int .i64 (d 4), .int .i64 (d 5), .int .i64 (d 6), .int .i64 (d 7)] := hk.2.1 _ rfl
                    refine opStep_call (by simp [execOp, resolve, invoke, hf, e54, e55, go_sem]) (mCmp_any a d _) ?_
                    rintro e w1 ⟨rfl, hE1⟩
                    exact ⟨_, rfl, hE1, rfl⟩
                  case s7 =>
                    intro w' ev hE hk ha hc hf
                    have e53 : ev (.tmp 53) = .int .i64 (lex8 a d) := hk.1 _ rfl
                    have e56 : ev (.tmp 56) = .int .i64 (lex8 a d) := hk.2.1 _ rfl
                    exact opStep_val (by simp [execOp, e53, e56, hc, go_sem]) rfl
                  case s8 =>
                    intro w' ev hE hk ha hc hf
                    have e57 : ev (.tmp 57) = .bool true := hk.1 _ rfl
                    exact opStep_val (by simp [execOp, e57, go_sem]) rfl
                  case s9 =>
                    intro w' ev hE hk ha hc hf
                    intro gv hg
                    have hgv := hg _ rfl
                    refine ⟨fun hgt => ?_, fun hgf => ?_⟩
                    · skip
                      refine opStep_call (by simp [execOp, resolve, invoke, hf, go_sem]) (Graded_any _) ?_
                      rintro e w1 ⟨A, c, rfl, hO, hE1⟩
                      exact ⟨_, rfl, hE1, hO.rows⟩
                    · exact absurd hgv hgf
                  case s10 =>
                    intro w' ev hE hk ha hc hf
                    intro gv hg
                    have hgv := hg _ rfl
                    refine ⟨fun hgt => ?_, fun hgf => ?_⟩
                    · skip
                      have e6 : ev (.tmp 6) = .pointer (some ⟨B6, 0, none⟩) := ha 6 (by decide)
                      have c0 : w'.cell? ⟨B6, 0, none⟩ = some (.int .i64 (a 0)) := hE.cellv (hb6.out.cell 0)
                      have c1 : w'.cell? ⟨B6, 1, none⟩ = some (.int .i64 (a 1)) := hE.cellv (hb6.out.cell 1)
                      have c2 : w'.cell? ⟨B6, 2, none⟩ = some (.int .i64 (a 2)) := hE.cellv (hb6.out.cell 2)
                      have c3 : w'.cell? ⟨B6, 3, none⟩ = some (.int .i64 (a 3)) := hE.cellv (hb6.out.cell 3)
                      have c4 : w'.cell? ⟨B6, 4, none⟩ = some (.int .i64 (a 4)) := hE.cellv (hb6.out.cell 4)
                      have c5 : w'.cell? ⟨B6, 5, none⟩ = some (.int .i64 (a 5)) := hE.cellv (hb6.out.cell 5)
                      have c6 : w'.cell? ⟨B6, 6, none⟩ = some (.int .i64 (a 6)) := hE.cellv (hb6.out.cell 6)
                      have c7 : w'.cell? ⟨B6, 7, none⟩ = some (.int .i64 (a 7)) := hE.cellv (hb6.out.cell 7)
                      exact opStep_val (by simp [execOp, e6, c0, c1, c2, c3, c4, c5, c6, c7, go_sem]) rfl
                    · exact absurd hgv hgf
                  case s11 =>
                    intro w' ev hE hk ha hc hf
                    intro gv hg
                    have hgv := hg _ rfl
                    refine ⟨fun hgt => ?_, fun hgf => ?_⟩
                    · skip
                      have e7 : ev (.tmp 7) = .pointer (some ⟨B7, 0, none⟩) := ha 7 (by decide)
                      have c0 : w'.cell? ⟨B7, 0, none⟩ = some (.int .i64 (d 0)) := hE.cellv (hb7.out.cell 0)
                      have c1 : w'.cell? ⟨B7, 1, none⟩ = some (.int .i64 (d 1)) := hE.cellv (hb7.out.cell 1)
                      have c2 : w'.cell? ⟨B7, 2, none⟩ = some (.int .i64 (d 2)) := hE.cellv (hb7.out.cell 2)
                      have c3 : w'.cell? ⟨B7, 3, none⟩ = some (.int .i64 (d 3)) := hE.cellv (hb7.out.cell 3)
                      have c4 : w'.cell? ⟨B7, 4, none⟩ = some (.int .i64 (d 4)) := hE.cellv (hb7.out.cell 4)
                      have c5 : w'.cell? ⟨B7, 5, none⟩ = some (.int .i64 (d 5)) := hE.cellv (hb7.out.cell 5)
                      have c6 : w'.cell? ⟨B7, 6, none⟩ = some (.int .i64 (d 6)) := hE.cellv (hb7.out.cell 6)
                      have c7 : w'.cell? ⟨B7, 7, none⟩ = some (.int .i64 (d 7)) := hE.cellv (hb7.out.cell 7)
                      exact opStep_val (by simp [execOp, e7, c0, c1, c2, c3, c4, c5, c6, c7, go_sem]) rfl
                    · exact absurd hgv hgf
                  case s12 =>
                    intro w' ev hE hk ha hc hf
                    intro gv hg
                    have hgv := hg _ rfl
                    refine ⟨fun hgt => ?_, fun hgf => ?_⟩
                    · skip
                      have f59 := hk.1 _ rfl
                      have e60 : ev (.tmp 60) = .agg #[.int .i64 (a 0), .int .i64 (a 1), .int .i64 (a 2), .int .i64 (a 3), .int .i64 (a 4), .int .i64 (a 5), .int .i64 (a 6), .int .i64 (a 7)] := hk.2.1 _ rfl
                      have e61 : ev (.tmp 61) = .agg #[.int .i64 (d 0), .int .i64 (d 1), .int .i64 (d 2), .int .i64 (d 3), .int .i64 (d 4), .int .i64 (d 5), .int .i64 (d 6), .int .i64 (d 7)] := hk.2.2.1 _ rfl
                      refine opStep_call (by simp [execOp, resolve, invoke, hf, e60, e61, go_sem]) (oCmp_any _ [onesOf 255] a d _ f59 hin1.out ha6.out hd6.out) ?_
                      rintro e w1 ⟨rfl, hE1⟩
                      exact ⟨_, rfl, hE1, by rw [hgr.out]⟩
                    · exact absurd hgv hgf
                  case s13 =>
                    intro w' ev hE hk ha hc hf
                    intro gv hg
                    have hgv := hg _ rfl
                    refine ⟨fun hgt => ?_, fun hgf => ?_⟩
                    · skip
                      have e8 : ev (.tmp 8) = .int .i64 1 := ha 8 (by decide)
                      exact opStep_val (by simp [execOp, e8, go_sem]) rfl
                    · exact absurd hgv hgf
                  case s14 =>
                    intro w' ev hE hk ha hc hf
                    intro gv hg
                    have hgv := hg _ rfl
                    refine ⟨fun hgt => ?_, fun hgf => ?_⟩
                    · skip
                      have e62 : ev (.tmp 62) = .int .i64 1 := hk.1 _ rfl
                      have e63 : ev (.tmp 63) = .int .i64 1 := hk.2.1 _ rfl
                      exact opStep_val (by simp [execOp, e62, e63, hc, go_sem]) rfl
                    · exact absurd hgv hgf
                  case s15 =>
                    intro w' ev hE hk ha hc hf
                    have e58 : ev (.tmp 58) = .bool true := hk.1 _ rfl
                    have e64 : ev (.tmp 64) = .bool true := hk.2.1 _ rfl
                    exact opStep_val (by simp [execOp, e58, e64, hc, go_sem]) rfl
                  case s16 =>
                    intro w' ev hE hk ha hc hf
                    have e65 : ev (.tmp 65) = .bool true := hk.1 _ rfl
                    exact opStep_val (by simp [execOp, e65, go_sem]) rfl
                  case s17 =>
                    intro w' ev hE hk ha hc hf
                    intro gv hg
                    have hgv := hg _ rfl
                    refine ⟨fun hgt => ?_, fun hgf => ?_⟩
                    · skip
                      refine opStep_call (by simp [execOp, resolve, invoke, hf, go_sem]) (Reverse_any _) ?_
                      rintro e w1 ⟨A, c, rfl, hO, hE1⟩
                      exact ⟨_, rfl, hE1, hO.rows⟩
                    · exact absurd hgv hgf
                  case s18 =>
                    intro w' ev hE hk ha hc hf
                    intro gv hg
                    have hgv := hg _ rfl
                    refine ⟨fun hgt => ?_, fun hgf => ?_⟩
                    · skip
                      have e6 : ev (.tmp 6) = .pointer (some ⟨B6, 0, none⟩) := ha 6 (by decide)
                      have c0 : w'.cell? ⟨B6, 0, none⟩ = some (.int .i64 (a 0)) := hE.cellv (hb6.out.cell 0)
                      have c1 : w'.cell? ⟨B6, 1, none⟩ = some (.int .i64 (a 1)) := hE.cellv (hb6.out.cell 1)
                      have c2 : w'.cell? ⟨B6, 2, none⟩ = some (.int .i64 (a 2)) := hE.cellv (hb6.out.cell 2)
                      have c3 : w'.cell? ⟨B6, 3, none⟩ = some (.int .i64 (a 3)) := hE.cellv (hb6.out.cell 3)
                      have c4 : w'.cell? ⟨B6, 4, none⟩ = some (.int .i64 (a 4)) := hE.cellv (hb6.out.cell 4)
                      have c5 : w'.cell? ⟨B6, 5, none⟩ = some (.int .i64 (a 5)) := hE.cellv (hb6.out.cell 5)
                      have c6 : w'.cell? ⟨B6, 6, none⟩ = some (.int .i64 (a 6)) := hE.cellv (hb6.out.cell 6)
                      have c7 : w'.cell? ⟨B6, 7, none⟩ = some (.int .i64 (a 7)) := hE.cellv (hb6.out.cell 7)
                      exact opStep_val (by simp [execOp, e6, c0, c1, c2, c3, c4, c5, c6, c7, go_sem]) rfl
                    · exact absurd hgv hgf
                  case s19 =>
                    intro w' ev hE hk ha hc hf
                    intro gv hg
                    have hgv := hg _ rfl
                    refine ⟨fun hgt => ?_, fun hgf => ?_⟩
                    · skip
                      have e7 : ev (.tmp 7) = .pointer (some ⟨B7, 0, none⟩) := ha 7 (by decide)
                      have c0 : w'.cell? ⟨B7, 0, none⟩ = some (.int .i64 (d 0)) := hE.cellv (hb7.out.cell 0)
                      have c1 : w'.cell? ⟨B7, 1, none⟩ = some (.int .i64 (d 1)) := hE.cellv (hb7.out.cell 1)
                      have c2 : w'.cell? ⟨B7, 2, none⟩ = some (.int .i64 (d 2)) := hE.cellv (hb7.out.cell 2)
                      have c3 : w'.cell? ⟨B7, 3, none⟩ = some (.int .i64 (d 3)) := hE.cellv (hb7.out.cell 3)
                      have c4 : w'.cell? ⟨B7, 4, none⟩ = some (.int .i64 (d 4)) := hE.cellv (hb7.out.cell 4)
                      have c5 : w'.cell? ⟨B7, 5, none⟩ = some (.int .i64 (d 5)) := hE.cellv (hb7.out.cell 5)
                      have c6 : w'.cell? ⟨B7, 6, none⟩ = some (.int .i64 (d 6)) := hE.cellv (hb7.out.cell 6)
                      have c7 : w'.cell? ⟨B7, 7, none⟩ = some (.int .i64 (d 7)) := hE.cellv (hb7.out.cell 7)
                      exact opStep_val (by simp [execOp, e7, c0, c1, c2, c3, c4, c5, c6, c7, go_sem]) rfl
                    · exact absurd hgv hgf
                  case s20 =>
                    intro w' ev hE hk ha hc hf
                    intro gv hg
                    have hgv := hg _ rfl
                    refine ⟨fun hgt => ?_, fun hgf => ?_⟩
                    · skip
                      have f67 := hk.1 _ rfl
                      have e68 : ev (.tmp 68) = .agg #[.int .i64 (a 0), .int .i64 (a 1), .int .i64 (a 2), .int .i64 (a 3), .int .i64 (a 4), .int .i64 (a 5), .int .i64 (a 6), .int .i64 (a 7)] := hk.2.1 _ rfl
                      have e69 : ev (.tmp 69) = .agg #[.int .i64 (d 0), .int .i64 (d 1), .int .i64 (d 2), .int .i64 (d 3), .int .i64 (d 4), .int .i64 (d 5), .int .i64 (d 6), .int .i64 (d 7)] := hk.2.2.1 _ rfl
                      refine opStep_call (by simp [execOp, resolve, invoke, hf, e68, e69, go_sem]) (oCmp_any _ revRows a d _ f67 hin2.out ha6.out hd6.out) ?_
                      rintro e w1 ⟨rfl, hE1⟩
                      exact ⟨_, rfl, hE1, by rw [hrv.out]⟩
                    · exact absurd hgv hgf
                  case s21 =>
                    intro w' ev hE hk ha hc hf
                    intro gv hg
                    have hgv := hg _ rfl
                    refine ⟨fun hgt => ?_, fun hgf => ?_⟩
                    · skip
                      have e9 : ev (.tmp 9) = .int .i64 1 := ha 9 (by decide)
                      exact opStep_val (by simp [execOp, e9, go_sem]) rfl
                    · exact absurd hgv hgf
                  case s22 =>
                    intro w' ev hE hk ha hc hf
                    intro gv hg
                    have hgv := hg _ rfl
                    refine ⟨fun hgt => ?_, fun hgf => ?_⟩
                    · skip
                      have e70 : ev (.tmp 70) = .int .i64 1 := hk.1 _ rfl
                      have e71 : ev (.tmp 71) = .int .i64 1 := hk.2.1 _ rfl
                      exact opStep_val (by simp [execOp, e70, e71, hc, go_sem]) rfl
                    · exact absurd hgv hgf
                  case s23 =>
                    intro w' ev hE hk ha hc hf
                    have e66 : ev (.tmp 66) = .bool true := hk.1 _ rfl
                    have e72 : ev (.tmp 72) = .bool true := hk.2.1 _ rfl
                    exact opStep_val (by simp [execOp, e66, e72, hc, go_sem]) rfl
                  case s24 =>
                    intro w' ev hE hk ha hc hf
                    have e73 : ev (.tmp 73) = .bool true := hk.1 _ rfl
                    exact opStep_val (by simp [execOp, e73, go_sem]) rfl
                  case s25 =>
                    intro w' ev hE hk ha hc hf
                    intro gv hg
                    have hgv := hg _ rfl
                    refine ⟨fun hgt => ?_, fun hgf => ?_⟩
                    · skip
                      have e5 : ev (.tmp 5) = .bool true := ha 5 (by decide)
                      exact opStep_val (by simp [execOp, e5, go_sem]) rfl
                    · exact absurd hgv hgf
                  case s26 =>
                    intro w' ev hE hk ha hc hf
                    have e74 : ev (.tmp 74) = .bool true := hk.1 _ rfl
                    have e75 : ev (.tmp 75) = .bool true := hk.2.1 _ rfl
                    exact opStep_val (by simp [execOp, e74, e75, hc, go_sem]) rfl
                case fin =>
                  intro g w' hE hF
                  have e26 := hF 26 _ rfl
                  simp only [List.length_cons, List.length_nil, Nat.reduceAdd, List.drop_succ_cons, List.drop_zero, List.take_succ_cons, List.take_zero, putG, Act.put, List.setIfInBounds_toArray, List.set_cons_succ, List.set_cons_zero, e26]
                  go_wp2
                  go_ret
                  exact ⟨rfl, hEw.out.trans ((Ext.refl _).drew.trans hE)⟩
    | true =>
      have hb6' : Hid (In8 b (-1000000) 1000000) := hb.out.mono (by omega) (by omega)
      have ba := sumTo_bound ha.out 8 (by omega)
      have bb := sumTo_bound hb.out 8 (by omega)
      have b7 := hb.out 7 (by omega)
      have hs1 : Hid (IntKind.i64.wrap (b 7 + sumTo a 8) = b 7 + sumTo a 8) := hide (IntWalk.i64_in _ (by omega))
      have hs2 : Hid (IntKind.i64.wrap (b 7 + sumTo a 8 - sumTo b 8) = b 7 + sumTo a 8 - sumTo b 8) := hide (IntWalk.i64_in _ (by omega))
      clear ba bb b7
      go_upto_region 6 with (fail)
      refine wp_region_v (by kernel_rfl) [[], [(20, 0)], [], [(22, 2)], [(21, 1), (23, 3)], [], [(25, 5)], [(24, 4), (26, 6)], [(27, 7)], []] [[], [0], [], [2], [0, 1, 2, 3], [], [2, 3, 5], [0, 1, 2, 3, 4, 5, 6], [0, 1, 2, 3, 4, 5, 6, 7], [0, 1, 2, 3, 4, 5, 6, 7, 8]]
        [fun v _ => v = .pointer (some ⟨B7, 7, none⟩), fun v _ => v = .int .i64 (b 7), fun v _ => v = .agg #[.int .i64 (a 0), .int .i64 (a 1), .int .i64 (a 2), .int .i64 (a 3), .int .i64 (a 4), .int .i64 (a 5), .int .i64 (a 6), .int .i64 (a 7)], fun v _ => v = .int .i64 (sumTo a 8), fun v _ => v = .int .i64 (b 7 + sumTo a 8), fun v _ => v = .agg #[.int .i64 (b 0), .int .i64 (b 1), .int .i64 (b 2), .int .i64 (b 3), .int .i64 (b 4), .int .i64 (b 5), .int .i64 (b 6), .int .i64 (b 7)], fun v _ => v = .int .i64 (sumTo b 8), fun v _ => v = .int .i64 (b 7 + sumTo a 8 - sumTo b 8), fun v _ => v = .int .i64 (max 0 (b 7 + sumTo a 8 - sumTo b 8)), fun v _ => v = .pointer (some ⟨B7, 7, none⟩)]
        rfl (by kernel_rfl) (by kernel_rfl) ?stab ?steps ?fin
      case stab => exact .cons (Stab.eq _) (.cons (Stab.eq _) (.cons (Stab.eq _) (.cons (Stab.eq _) (.cons (Stab.eq _) (.cons (Stab.eq _) (.cons (Stab.eq _) (.cons (Stab.eq _) (.cons (Stab.eq _) (.cons (Stab.eq _) .nil)))))))))
      case steps =>
        refine .cons ?s0 (.cons ?s1 (.cons ?s2 (.cons ?s3 (.cons ?s4 (.cons ?s5 (.cons ?s6 (.cons ?s7 (.cons ?s8 (.cons ?s9 .nil)))))))))
        case s0 =>
          intro w' ev hE hk ha hc hf
          have e7 : ev (.tmp 7) = .pointer (some ⟨B7, 0, none⟩) := ha 7 (by decide)
          exact opStep_val (by simp [execOp, e7, hc, go_sem]) rfl
        case s1 =>
          intro w' ev hE hk ha hc hf
          have e20 : ev (.tmp 20) = .pointer (some ⟨B7, 7, none⟩) := hk.1 _ rfl
          have c7 : w'.cell? ⟨B7, 7, none⟩ = some (.int .i64 (b 7)) := hE.cellv (hb7.out.cell 7)
          exact opStep_val (by simp [execOp, e20, c7, go_sem]) rfl
        case s2 =>
          intro w' ev hE hk ha hc hf
          have e6 : ev (.tmp 6) = .pointer (some ⟨B6, 0, none⟩) := ha 6 (by decide)
          have c0 : w'.cell? ⟨B6, 0, none⟩ = some (.int .i64 (a 0)) := hE.cellv (hb6.out.cell 0)
          have c1 : w'.cell? ⟨B6, 1, none⟩ = some (.int .i64 (a 1)) := hE.cellv (hb6.out.cell 1)
          have c2 : w'.cell? ⟨B6, 2, none⟩ = some (.int .i64 (a 2)) := hE.cellv (hb6.out.cell 2)
          have c3 : w'.cell? ⟨B6, 3, none⟩ = some (.int .i64 (a 3)) := hE.cellv (hb6.out.cell 3)
          have c4 : w'.cell? ⟨B6, 4, none⟩ = some (.int .i64 (a 4)) := hE.cellv (hb6.out.cell 4)
          have c5 : w'.cell? ⟨B6, 5, none⟩ = some (.int .i64 (a 5)) := hE.cellv (hb6.out.cell 5)
          have c6 : w'.cell? ⟨B6, 6, none⟩ = some (.int .i64 (a 6)) := hE.cellv (hb6.out.cell 6)
          have c7 : w'.cell? ⟨B6, 7, none⟩ = some (.int .i64 (a 7)) := hE.cellv (hb6.out.cell 7)
          exact opStep_val (by simp [execOp, e6, c0, c1, c2, c3, c4, c5, c6, c7, go_sem]) rfl
        case s3 =>
          intro w' ev hE hk ha hc hf
          have e22 : ev (.tmp 22) = .agg #[.int .i64 (a 0), .int .i64 (a 1), .int .i64 (a 2), .int .i64 (a 3), .int .i64 (a 4), .int .i64 (a 5), .int .i64 (a 6), .int .i64 (a 7)] := hk.1 _ rfl
          refine opStep_call (by simp [execOp, resolve, invoke, hf, e22, go_sem]) (Degree_any a _ ha6.out) ?_
          rintro e w1 ⟨rfl, hE1⟩
          exact ⟨_, rfl, hE1, rfl⟩
        case s4 =>
          intro w' ev hE hk ha hc hf
          have e21 : ev (.tmp 21) = .int .i64 (b 7) := hk.1 _ rfl
          have e23 : ev (.tmp 23) = .int .i64 (sumTo a 8) := hk.2.1 _ rfl
          exact opStep_val (by simp [execOp, e21, e23, hs1.out, go_sem]) rfl
        case s5 =>
          intro w' ev hE hk ha hc hf
          have e7 : ev (.tmp 7) = .pointer (some ⟨B7, 0, none⟩) := ha 7 (by decide)
          have c0 : w'.cell? ⟨B7, 0, none⟩ = some (.int .i64 (b 0)) := hE.cellv (hb7.out.cell 0)
          have c1 : w'.cell? ⟨B7, 1, none⟩ = some (.int .i64 (b 1)) := hE.cellv (hb7.out.cell 1)
          have c2 : w'.cell? ⟨B7, 2, none⟩ = some (.int .i64 (b 2)) := hE.cellv (hb7.out.cell 2)
          have c3 : w'.cell? ⟨B7, 3, none⟩ = some (.int .i64 (b 3)) := hE.cellv (hb7.out.cell 3)
          have c4 : w'.cell? ⟨B7, 4, none⟩ = some (.int .i64 (b 4)) := hE.cellv (hb7.out.cell 4)
          have c5 : w'.cell? ⟨B7, 5, none⟩ = some (.int .i64 (b 5)) := hE.cellv (hb7.out.cell 5)
          have c6 : w'.cell? ⟨B7, 6, none⟩ = some (.int .i64 (b 6)) := hE.cellv (hb7.out.cell 6)
          have c7 : w'.cell? ⟨B7, 7, none⟩ = some (.int .i64 (b 7)) := hE.cellv (hb7.out.cell 7)
          exact opStep_val (by simp [execOp, e7, c0, c1, c2, c3, c4, c5, c6, c7, go_sem]) rfl
        case s6 =>
          intro w' ev hE hk ha hc hf
          have e25 : ev (.tmp 25) = .agg #[.int .i64 (b 0), .int .i64 (b 1), .int .i64 (b 2), .int .i64 (b 3), .int .i64 (b 4), .int .i64 (b 5), .int .i64 (b 6), .int .i64 (b 7)] := hk.1 _ rfl
          refine opStep_call (by simp [execOp, resolve, invoke, hf, e25, go_sem]) (Degree_any b _ hb6'.out) ?_
          rintro e w1 ⟨rfl, hE1⟩
          exact ⟨_, rfl, hE1, rfl⟩
        case s7 =>
          intro w' ev hE hk ha hc hf
          have e24 : ev (.tmp 24) = .int .i64 (b 7 + sumTo a 8) := hk.1 _ rfl
          have e26 : ev (.tmp 26) = .int .i64 (sumTo b 8) := hk.2.1 _ rfl
          exact opStep_val (by simp [execOp, e24, e26, hs2.out, go_sem]) rfl
        case s8 =>
          intro w' ev hE hk ha hc hf
          have e27 : ev (.tmp 27) = .int .i64 (b 7 + sumTo a 8 - sumTo b 8) := hk.1 _ rfl
          exact opStep_val (by simp [execOp, e27, hc, go_sem]) rfl
        case s9 =>
          intro w' ev hE hk ha hc hf
          have e7 : ev (.tmp 7) = .pointer (some ⟨B7, 0, none⟩) := ha 7 (by decide)
          exact opStep_val (by simp [execOp, e7, hc, go_sem]) rfl
      case fin =>
        intro g w' hE hF
        have xo : w'.cell? ⟨B7, 7, none⟩ = some (.int .i64 (b 7)) := ((hb7.out.ext ((Ext.refl _).drew.trans hE))).cell 7
        have xz := ((hb7.out.ext ((Ext.refl _).drew.trans hE))).frozen 7
        have hset : Hid (Blk (w'.setCell ⟨B7, 7, none⟩ (.int .i64 (max 0 (b 7 + sumTo a 8 - sumTo b 8)))) B7 35 (c8 (fun i => if i = 7 then max 0 (b 7 + sumTo a 8 - sumTo b 8) else b i))) :=
          (hb7.out.ext ((Ext.refl _).drew.trans hE)).set8 (by omega) _
        have hfar : Hid (Blk (w'.setCell ⟨B7, 7, none⟩ (.int .i64 (max 0 (b 7 + sumTo a 8 - sumTo b 8)))) B6 35 (c8 a)) := (hb6.out.ext ((Ext.refl _).drew.trans hE)).far (by dsimp only; omega) _
        have hEx : Hid (Ext w (w'.setCell ⟨B7, 7, none⟩ (.int .i64 (max 0 (b 7 + sumTo a 8 - sumTo b 8))))) := (hEw.out.trans ((Ext.refl _).drew.trans hE)).set (p := ⟨B7, 7, none⟩) (by dsimp only; omega) _
        have e8 := hF 8 _ rfl
        have e9 := hF 9 _ rfl
        simp only [List.length_cons, List.length_nil, Nat.reduceAdd, List.drop_succ_cons, List.drop_zero, List.take_succ_cons, List.take_zero, putG, Act.put, List.setIfInBounds_toArray, List.set_cons_succ, List.set_cons_zero, e8, e9]
        clear hF e8 e9 hE hs1 hs2 hb6 hb7 hEw
        have hdb : Hid ((fun i => if i = 7 then max 0 (b 7 + sumTo a 8 - sumTo b 8) else b i) 7 ≤ 65535 → In8 (fun i => if i = 7 then max 0 (b 7 + sumTo a 8 - sumTo b 8) else b i) (-1000000) 1000000) := hide (fun h i hi => by
          have := hb.out i hi
          simp only [if_true] at h
          simp only []
          split <;> omega)
        go_upto_region 7 with (fail)
        obtain ⟨d, hd⟩ : ∃ d : Nat → Int, d = fun i => if i = 7 then max 0 (b 7 + sumTo a 8 - sumTo b 8) else b i := ⟨_, rfl⟩
        rw [← hd] at hset hdb
        generalize (w'.setCell ⟨B7, 7, none⟩ (.int .i64 (max 0 (b 7 + sumTo a 8 - sumTo b 8)))) = w3 at *
        have hb6 := hfar
        have hb7 := hset
        have hEw := hEx
        clear ha hb n67 hB7w xo xz hfar hset hEx hd hb6'
        have q7 : w3.cell? ⟨B7, 7, none⟩ = some (.int .i64 (d 7)) := hb7.out.cell 7
        by_cases hbig : 65535 < d 7
        · have hbg : decide (65535 < d 7) = true := by simpa using hbig
          generalize d 7 = d7 at *
          go_wp2
          go_ret
          exact ⟨rfl, hEw.out⟩
        · have hbg : decide (65535 < d 7) = false := by simpa using hbig
          have hd6 : Hid (In8 d (-1000000) 1000000) := hide (hdb.out (by omega))
          have ocg := hide (oCmp_graded a d)
          have ocr := hide (oCmp_rev a d)
          clear hdb
          generalize d 7 = d7 at *
          go_upto_region 9 with (fail)
          clear q7 hbg hbig
          refine wp_region_v (by kernel_rfl) [[], [], [(34, 0), (35, 1)], [], [], [(37, 3), (38, 4)]] [[], [], [0, 1], [], [], [0, 1, 2, 3, 4]]
            [fun v _ => v = .agg #[.int .i64 (a 0), .int .i64 (a 1), .int .i64 (a 2), .int .i64 (a 3), .int .i64 (a 4), .int .i64 (a 5), .int .i64 (a 6), .int .i64 (a 7)], fun v _ => v = .agg #[.int .i64 (d 0), .int .i64 (d 1), .int .i64 (d 2), .int .i64 (d 3), .int .i64 (d 4), .int .i64 (d 5), .int .i64 (d 6), .int .i64 (d 7)], fun v _ => v = .int .i64 (lex8 a d), fun v _ => v = .agg #[.int .i64 (a 0), .int .i64 (a 1), .int .i64 (a 2), .int .i64 (a 3), .int .i64 (a 4), .int .i64 (a 5), .int .i64 (a 6), .int .i64 (a 7)], fun v _ => v = .agg #[.int .i64 (d 0), .int .i64 (d 1), .int .i64 (d 2), .int .i64 (d 3), .int .i64 (d 4), .int .i64 (d 5), .int .i64 (d 6), .int .i64 (d 7)], fun v _ => v = .int .i64 (lastTo a d 8)]
            rfl (by kernel_rfl) (by kernel_rfl) ?stab ?steps ?fin
          case stab => exact .cons (Stab.eq _) (.cons (Stab.eq _) (.cons (Stab.eq _) (.cons (Stab.eq _) (.cons (Stab.eq _) (.cons (Stab.eq _) .nil)))))
          case steps =>
            refine .cons ?s0 (.cons ?s1 (.cons ?s2 (.cons ?s3 (.cons ?s4 (.cons ?s5 .nil)))))
            case s0 =>
              intro w' ev hE hk ha hc hf
              have e6 : ev (.tmp 6) = .pointer (some ⟨B6, 0, none⟩) := ha 6 (by decide)
              have c0 : w'.cell? ⟨B6, 0, none⟩ = some (.int .i64 (a 0)) := hE.cellv (hb6.out.cell 0)
              have c1 : w'.cell? ⟨B6, 1, none⟩ = some (.int .i64 (a 1)) := hE.cellv (hb6.out.cell 1)
              have c2 : w'.cell? ⟨B6, 2, none⟩ = some (.int .i64 (a 2)) := hE.cellv (hb6.out.cell 2)
              have c3 : w'.cell? ⟨B6, 3, none⟩ = some (.int .i64 (a 3)) := hE.cellv (hb6.out.cell 3)
              have c4 : w'.cell? ⟨B6, 4, none⟩ = some (.int .i64 (a 4)) := hE.cellv (hb6.out.cell 4)
              have c5 : w'.cell? ⟨B6, 5, none⟩ = some (.int .i64 (a 5)) := hE.cellv (hb6.out.cell 5)
              have c6 : w'.cell? ⟨B6, 6, none⟩ = some (.int .i64 (a 6)) := hE.cellv (hb6.out.cell 6)
              have c7 : w'.cell? ⟨B6, 7, none⟩ = some (.int .i64 (a 7)) := hE.cellv (hb6.out.cell 7)
              exact opStep_val (by simp [execOp, e6, c0, c1, c2, c3, c4, c5, c6, c7, go_sem]) rfl
            case s1 =>
              intro w' ev hE hk ha hc hf
              have e7 : ev (.tmp 7) = .pointer (some ⟨B7, 0, none⟩) := ha 7 (by decide)
              have c0 : w'.cell? ⟨B7, 0, none⟩ = some (.int .i64 (d 0)) := hE.cellv (hb7.out.cell 0)
              have c1 : w'.cell? ⟨B7, 1, none⟩ = some (.int .i64 (d 1)) := hE.cellv (hb7.out.cell 1)
              have c2 : w'.cell? ⟨B7, 2, none⟩ = some (.int .i64 (d 2)) := hE.cellv (hb7.out.cell 2)
              have c3 : w'.cell? ⟨B7, 3, none⟩ = some (.int .i64 (d 3)) := hE.cellv (hb7.out.cell 3)
              have c4 : w'.cell? ⟨B7, 4, none⟩ = some (.int .i64 (d 4)) := hE.cellv (hb7.out.cell 4)
              have c5 : w'.cell? ⟨B7, 5, none⟩ = some (.int .i64 (d 5)) := hE.cellv (hb7.out.cell 5)
              have c6 : w'.cell? ⟨B7, 6, none⟩ = some (.int .i64 (d 6)) := hE.cellv (hb7.out.cell 6)
              have c7 : w'.cell? ⟨B7, 7, none⟩ = some (.int .i64 (d 7)) := hE.cellv (hb7.out.cell 7)
              exact opStep_val (by simp [execOp, e7, c0, c1, c2, c3, c4, c5, c6, c7, go_sem]) rfl
            case s2 =>
              intro w' ev hE hk ha hc hf
              have e34 : ev (.tmp 34) = .agg #[.int .i64 (a 0), .int .i64 (a 1), .int .i64 (a 2), .int .i64 (a 3), .int .i64 (a 4), .int .i64 (a 5), .int .i64 (a 6), .int .i64 (a 7)] := hk.1 _ rfl
              have e35 : ev (.tmp 35) = .agg #[.int .i64 (d 0), .int .i64 (d 1), .int .i64 (d 2), .int .i64 (d 3), .int .i64 (d 4), .int .i64 (d 5), .int .i64 (d 6), .int .i64 (d 7)] := hk.2.1 _ rfl
              refine opStep_call (by simp [execOp, resolve, invoke, hf, e34, e35, go_sem]) (mCmp_any a d _) ?_
              rintro e w1 ⟨rfl, hE1⟩
              exact ⟨_, rfl, hE1, rfl⟩
            case s3 =>
              intro w' ev hE hk ha hc hf
              have e6 : ev (.tmp 6) = .pointer (some ⟨B6, 0, none⟩) := ha 6 (by decide)
              have c0 : w'.cell? ⟨B6, 0, none⟩ = some (.int .i64 (a 0)) := hE.cellv (hb6.out.cell 0)
              have c1 : w'.cell? ⟨B6, 1, none⟩ = some (.int .i64 (a 1)) := hE.cellv (hb6.out.cell 1)
              have c2 : w'.cell? ⟨B6, 2, none⟩ = some (.int .i64 (a 2)) := hE.cellv (hb6.out.cell 2)
              have c3 : w'.cell? ⟨B6, 3, none⟩ = some (.int .i64 (a 3)) := hE.cellv (hb6.out.cell 3)
              have c4 : w'.cell? ⟨B6, 4, none⟩ = some (.int .i64 (a 4)) := hE.cellv (hb6.out.cell 4)
              have c5 : w'.cell? ⟨B6, 5, none⟩ = some (.int .i64 (a 5)) := hE.cellv (hb6.out.cell 5)
              have c6 : w'.cell? ⟨B6, 6, none⟩ = some (.int .i64 (a 6)) := hE.cellv (hb6.out.cell 6)
              have c7 : w'.cell? ⟨B6, 7, none⟩ = some (.int .i64 (a 7)) := hE.cellv (hb6.out.cell 7)
              exact opStep_val (by simp [execOp, e6, c0, c1, c2, c3, c4, c5, c6, c7, go_sem]) rfl
            case s4 =>
              intro w' ev hE hk ha hc hf
              have e7 : ev (.tmp 7) = .pointer (some ⟨B7, 0, none⟩) := ha 7 (by decide)
              have c0 : w'.cell? ⟨B7, 0, none⟩ = some (.int .i64 (d 0)) := hE.cellv (hb7.out.cell 0)
              have c1 : w'.cell? ⟨B7, 1, none⟩ = some (.int .i64 (d 1)) := hE.cellv (hb7.out.cell 1)
              have c2 : w'.cell? ⟨B7, 2, none⟩ = some (.int .i64 (d 2)) := hE.cellv (hb7.out.cell 2)
              have c3 : w'.cell? ⟨B7, 3, none⟩ = some (.int .i64 (d 3)) := hE.cellv (hb7.out.cell 3)
              have c4 : w'.cell? ⟨B7, 4, none⟩ = some (.int .i64 (d 4)) := hE.cellv (hb7.out.cell 4)
              have c5 : w'.cell? ⟨B7, 5, none⟩ = some (.int .i64 (d 5)) := hE.cellv (hb7.out.cell 5)
              have c6 : w'.cell? ⟨B7, 6, none⟩ = some (.int .i64 (d 6)) := hE.cellv (hb7.out.cell 6)
              have c7 : w'.cell? ⟨B7, 7, none⟩ = some (.int .i64 (d 7)) := hE.cellv (hb7.out.cell 7)
              exact opStep_val (by simp [execOp, e7, c0, c1, c2, c3, c4, c5, c6, c7, go_sem]) rfl
            case s5 =>
              intro w' ev hE hk ha hc hf
              have e37 : ev (.tmp 37) = .agg #[.int .i64 (a 0), .int .i64 (a 1), .int .i64 (a 2), .int .i64 (a 3), .int .i64 (a 4), .int .i64 (a 5), .int .i64 (a 6), .int .i64 (a 7)] := hk.1 _ rfl
              have e38 : ev (.tmp 38) = .agg #[.int .i64 (d 0), .int .i64 (d 1), .int .i64 (d 2), .int .i64 (d 3), .int .i64 (d 4), .int .i64 (d 5), .int .i64 (d 6), .int .i64 (d 7)] := hk.2.1 _ rfl
              refine opStep_call (by simp [execOp, resolve, invoke, hf, e37, e38, go_sem]) (last_any a d _) ?_
              rintro e w1 ⟨rfl, hE1⟩
              exact ⟨_, rfl, hE1, rfl⟩
          case fin =>
            intro g w' hE hF
            have e2 := hF 2 _ rfl
            have e5 := hF 5 _ rfl
            simp only [List.length_cons, List.length_nil, Nat.reduceAdd, List.drop_succ_cons, List.drop_zero, List.take_succ_cons, List.take_zero, putG, Act.put, List.setIfInBounds_toArray, List.set_cons_succ, List.set_cons_zero, e2, e5]
            replace hE := hide ((Ext.refl _).drew.trans hE)
            replace hb6 := hide (hb6.out.ext hE.out)
            replace hb7 := hide (hb7.out.ext hE.out)
            replace hEw := hide (hEw.out.trans hE.out)
            clear hF hE
            clear e2 e5
            rcases Int.lt_trichotomy (sumTo a 8) (sumTo d 8) with hlt | hlt | hlt
            · have hgr : Hid (oCmp [onesOf 255] a d = -1) := hide (by rw [ocg.out, if_pos hlt])
              have hrv : Hid (oCmp revRows a d = -1) := hide (by rw [ocr.out, if_pos hlt])
              have h1 : decide (sumTo a 8 < sumTo d 8) = true := by simpa using hlt
              have h2 : decide (sumTo d 8 < sumTo a 8) = false := by simp; omega
              have h3 : sumTo a 8 < sumTo d 8 := hlt
              have h4 : ¬ sumTo d 8 < sumTo a 8 := by omega
              replace h1 := hide h1
              replace h2 := hide h2
              clear ocg ocr hlt
              go_upto_region 10 with (fail)
              refine wp_region_v (by kernel_rfl) [[], [(40, 0)], [], [(42, 2)], [(41, 1), (43, 3)]] [[], [0], [], [0, 1, 2], [0, 1, 2, 3]]
                [fun v _ => v = .agg #[.int .i64 (a 0), .int .i64 (a 1), .int .i64 (a 2), .int .i64 (a 3), .int .i64 (a 4), .int .i64 (a 5), .int .i64 (a 6), .int .i64 (a 7)], fun v _ => v = .int .i64 (sumTo a 8), fun v _ => v = .agg #[.int .i64 (d 0), .int .i64 (d 1), .int .i64 (d 2), .int .i64 (d 3), .int .i64 (d 4), .int .i64 (d 5), .int .i64 (d 6), .int .i64 (d 7)], fun v _ => v = .int .i64 (sumTo d 8), fun v _ => v = .bool true]
                rfl (by kernel_rfl) (by kernel_rfl) ?stab ?steps ?fin
              case stab => exact .cons (Stab.eq _) (.cons (Stab.eq _) (.cons (Stab.eq _) (.cons (Stab.eq _) (.cons (Stab.eq _) .nil))))
              case steps =>
                refine .cons ?s0 (.cons ?s1 (.cons ?s2 (.cons ?s3 (.cons ?s4 .nil))))
                case s0 =>
                  intro w' ev hE hk ha hc hf
                  have e6 : ev (.tmp 6) = .pointer (some ⟨B6, 0, none⟩) := ha 6 (by decide)
                  have c0 : w'.cell? ⟨B6, 0, none⟩ = some (.int .i64 (a 0)) := hE.cellv (hb6.out.cell 0)
                  have c1 : w'.cell? ⟨B6, 1, none⟩ = some (.int .i64 (a 1)) := hE.cellv (hb6.out.cell 1)
                  have c2 : w'.cell? ⟨B6, 2, none⟩ = some (.int .i64 (a 2)) := hE.cellv (hb6.out.cell 2)
                  have c3 : w'.cell? ⟨B6, 3, none⟩ = some (.int .i64 (a 3)) := hE.cellv (hb6.out.cell 3)
                  have c4 : w'.cell? ⟨B6, 4, none⟩ = some (.int .i64 (a 4)) := hE.cellv (hb6.out.cell 4)
                  have c5 : w'.cell? ⟨B6, 5, none⟩ = some (.int .i64 (a 5)) := hE.cellv (hb6.out.cell 5)
                  have c6 : w'.cell? ⟨B6, 6, none⟩ = some (.int .i64 (a 6)) := hE.cellv (hb6.out.cell 6)
                  have c7 : w'.cell? ⟨B6, 7, none⟩ = some (.int .i64 (a 7)) := hE.cellv (hb6.out.cell 7)
                  exact opStep_val (by simp [execOp, e6, c0, c1, c2, c3, c4, c5, c6, c7, go_sem]) rfl
                case s1 =>
                  intro w' ev hE hk ha hc hf
                  have e40 : ev (.tmp 40) = .agg #[.int .i64 (a 0), .int .i64 (a 1), .int .i64 (a 2), .int .i64 (a 3), .int .i64 (a 4), .int .i64 (a 5), .int .i64 (a 6), .int .i64 (a 7)] := hk.1 _ rfl
                  refine opStep_call (by simp [execOp, resolve, invoke, hf, e40, go_sem]) (Degree_any a _ ha6.out) ?_
                  rintro e w1 ⟨rfl, hE1⟩
                  exact ⟨_, rfl, hE1, rfl⟩
                case s2 =>
                  intro w' ev hE hk ha hc hf
                  have e7 : ev (.tmp 7) = .pointer (some ⟨B7, 0, none⟩) := ha 7 (by decide)
                  have c0 : w'.cell? ⟨B7, 0, none⟩ = some (.int .i64 (d 0)) := hE.cellv (hb7.out.cell 0)
                  have c1 : w'.cell? ⟨B7, 1, none⟩ = some (.int .i64 (d 1)) := hE.cellv (hb7.out.cell 1)
                  have c2 : w'.cell? ⟨B7, 2, none⟩ = some (.int .i64 (d 2)) := hE.cellv (hb7.out.cell 2)
                  have c3 : w'.cell? ⟨B7, 3, none⟩ = some (.int .i64 (d 3)) := hE.cellv (hb7.out.cell 3)
                  have c4 : w'.cell? ⟨B7, 4, none⟩ = some (.int .i64 (d 4)) := hE.cellv (hb7.out.cell 4)
                  have c5 : w'.cell? ⟨B7, 5, none⟩ = some (.int .i64 (d 5)) := hE.cellv (hb7.out.cell 5)
                  have c6 : w'.cell? ⟨B7, 6, none⟩ = some (.int .i64 (d 6)) := hE.cellv (hb7.out.cell 6)
                  have c7 : w'.cell? ⟨B7, 7, none⟩ = some (.int .i64 (d 7)) := hE.cellv (hb7.out.cell 7)
                  exact opStep_val (by simp [execOp, e7, c0, c1, c2, c3, c4, c5, c6, c7, go_sem]) rfl
                case s3 =>
                  intro w' ev hE hk ha hc hf
                  have e42 : ev (.tmp 42) = .agg #[.int .i64 (d 0), .int .i64 (d 1), .int .i64 (d 2), .int .i64 (d 3), .int .i64 (d 4), .int .i64 (d 5), .int .i64 (d 6), .int .i64 (d 7)] := hk.1 _ rfl
                  refine opStep_call (by simp [execOp, resolve, invoke, hf, e42, go_sem]) (Degree_any d _ hd6.out) ?_
                  rintro e w1 ⟨rfl, hE1⟩
                  exact ⟨_, rfl, hE1, rfl⟩
                case s4 =>
                  intro w' ev hE hk ha hc hf
                  have e41 : ev (.tmp 41) = .int .i64 (sumTo a 8) := hk.1 _ rfl
                  have e43 : ev (.tmp 43) = .int .i64 (sumTo d 8) := hk.2.1 _ rfl
                  exact opStep_val (by simp [execOp, e41, e43, h1.out, h3, go_sem]) rfl
              case fin =>
                intro g w' hE hF
                have e4 := hF 4 _ rfl
                simp only [List.length_cons, List.length_nil, Nat.reduceAdd, List.drop_succ_cons, List.drop_zero, List.take_succ_cons, List.take_zero, putG, Act.put, List.setIfInBounds_toArray, List.set_cons_succ, List.set_cons_zero, e4]
                replace hE := hide ((Ext.refl _).drew.trans hE)
                replace hb6 := hide (hb6.out.ext hE.out)
                replace hb7 := hide (hb7.out.ext hE.out)
                replace hEw := hide (hEw.out.trans hE.out)
                clear hF hE
                clear e4
                go_upto_region 12 with (fail)
                refine wp_region_v (by kernel_rfl) [[], [(45, 0)], [], [(47, 2)], [(46, 1), (48, 3)]] [[], [0], [], [0, 1, 2], [0, 1, 2, 3]]
                  [fun v _ => v = .agg #[.int .i64 (a 0), .int .i64 (a 1), .int .i64 (a 2), .int .i64 (a 3), .int .i64 (a 4), .int .i64 (a 5), .int .i64 (a 6), .int .i64 (a 7)], fun v _ => v = .int .i64 (sumTo a 8), fun v _ => v = .agg #[.int .i64 (d 0), .int .i64 (d 1), .int .i64 (d 2), .int .i64 (d 3), .int .i64 (d 4), .int .i64 (d 5), .int .i64 (d 6), .int .i64 (d 7)], fun v _ => v = .int .i64 (sumTo d 8), fun v _ => v = .bool false]
                  rfl (by kernel_rfl) (by kernel_rfl) ?stab ?steps ?fin
                case stab => exact .cons (Stab.eq _) (.cons (Stab.eq _) (.cons (Stab.eq _) (.cons (Stab.eq _) (.cons (Stab.eq _) .nil))))
                case steps =>
                  refine .cons ?s0 (.cons ?s1 (.cons ?s2 (.cons ?s3 (.cons ?s4 .nil))))
                  case s0 =>
                    intro w' ev hE hk ha hc hf
                    have e6 : ev (.tmp 6) = .pointer (some ⟨B6, 0, none⟩) := ha 6 (by decide)
                    have c0 : w'.cell? ⟨B6, 0, none⟩ = some (.int .i64 (a 0)) := hE.cellv (hb6.out.cell 0)
                    have c1 : w'.cell? ⟨B6, 1, none⟩ = some (.int .i64 (a 1)) := hE.cellv (hb6.out.cell 1)
                    have c2 : w'.cell? ⟨B6, 2, none⟩ = some (.int .i64 (a 2)) := hE.cellv (hb6.out.cell 2)
                    have c3 : w'.cell? ⟨B6, 3, none⟩ = some (.int .i64 (a 3)) := hE.cellv (hb6.out.cell 3)
                    have c4 : w'.cell? ⟨B6, 4, none⟩ = some (.int .i64 (a 4)) := hE.cellv (hb6.out.cell 4)
                    have c5 : w'.cell? ⟨B6, 5, none⟩ = some (.int .i64 (a 5)) := hE.cellv (hb6.out.cell 5)
                    have c6 : w'.cell? ⟨B6, 6, none⟩ = some (.int .i64 (a 6)) := hE.cellv (hb6.out.cell 6)
                    have c7 : w'.cell? ⟨B6, 7, none⟩ = some (.int .i64 (a 7)) := hE.cellv (hb6.out.cell 7)
                    exact opStep_val (by simp [execOp, e6, c0, c1, c2, c3, c4, c5, c6, c7, go_sem]) rfl
                  case s1 =>
                    intro w' ev hE hk ha hc hf
                    have e45 : ev (.tmp 45) = .agg #[.int .i64 (a 0), .int .i64 (a 1), .int .i64 (a 2), .int .i64 (a 3), .int .i64 (a 4), .int .i64 (a 5), .int .i64 (a 6), .int .i64 (a 7)] := hk.1 _ rfl
                    refine opStep_call (by simp [execOp, resolve, invoke, hf, e45, go_sem]) (Degree_any a _ ha6.out) ?_
                    rintro e w1 ⟨rfl, hE1⟩
                    exact ⟨_, rfl, hE1, rfl⟩
                  case s2 =>
                    intro w' ev hE hk ha hc hf
                    have e7 : ev (.tmp 7) = .pointer (some ⟨B7, 0, none⟩) := ha 7 (by decide)
                    have c0 : w'.cell? ⟨B7, 0, none⟩ = some (.int .i64 (d 0)) := hE.cellv (hb7.out.cell 0)
                    have c1 : w'.cell? ⟨B7, 1, none⟩ = some (.int .i64 (d 1)) := hE.cellv (hb7.out.cell 1)
                    have c2 : w'.cell? ⟨B7, 2, none⟩ = some (.int .i64 (d 2)) := hE.cellv (hb7.out.cell 2)
                    have c3 : w'.cell? ⟨B7, 3, none⟩ = some (.int .i64 (d 3)) := hE.cellv (hb7.out.cell 3)
                    have c4 : w'.cell? ⟨B7, 4, none⟩ = some (.int .i64 (d 4)) := hE.cellv (hb7.out.cell 4)
                    have c5 : w'.cell? ⟨B7, 5, none⟩ = some (.int .i64 (d 5)) := hE.cellv (hb7.out.cell 5)
                    have c6 : w'.cell? ⟨B7, 6, none⟩ = some (.int .i64 (d 6)) := hE.cellv (hb7.out.cell 6)
                    have c7 : w'.cell? ⟨B7, 7, none⟩ = some (.int .i64 (d 7)) := hE.cellv (hb7.out.cell 7)
                    exact opStep_val (by simp [execOp, e7, c0, c1, c2, c3, c4, c5, c6, c7, go_sem]) rfl
                  case s3 =>
                    intro w' ev hE hk ha hc hf
                    have e47 : ev (.tmp 47) = .agg #[.int .i64 (d 0), .int .i64 (d 1), .int .i64 (d 2), .int .i64 (d 3), .int .i64 (d 4), .int .i64 (d 5), .int .i64 (d 6), .int .i64 (d 7)] := hk.1 _ rfl
                    refine opStep_call (by simp [execOp, resolve, invoke, hf, e47, go_sem]) (Degree_any d _ hd6.out) ?_
                    rintro e w1 ⟨rfl, hE1⟩
                    exact ⟨_, rfl, hE1, rfl⟩
                  case s4 =>
                    intro w' ev hE hk ha hc hf
                    have e46 : ev (.tmp 46) = .int .i64 (sumTo a 8) := hk.1 _ rfl
                    have e48 : ev (.tmp 48) = .int .i64 (sumTo d 8) := hk.2.1 _ rfl
                    exact opStep_val (by simp [execOp, e46, e48, h2.out, h4, go_sem]) rfl
                case fin =>
                  intro g w' hE hF
                  have e4 := hF 4 _ rfl
                  simp only [List.length_cons, List.length_nil, Nat.reduceAdd, List.drop_succ_cons, List.drop_zero, List.take_succ_cons, List.take_zero, putG, Act.put, List.setIfInBounds_toArray, List.set_cons_succ, List.set_cons_zero, e4]
                  replace hE := hide ((Ext.refl _).drew.trans hE)
                  replace hb6 := hide (hb6.out.ext hE.out)
                  replace hb7 := hide (hb7.out.ext hE.out)
                  replace hEw := hide (hEw.out.trans hE.out)
                  clear hF hE
                  clear e4
                  go_upto_region 14 with (fail)
                  refine wp_region_v (by kernel_rfl) [[], [], [], [(50, 0), (51, 1), (52, 2)], [], [], [(54, 4), (55, 5)], [(53, 3), (56, 6)], [(57, 7)], [], [], [], [(59, 9), (60, 10), (61, 11)], [], [(62, 12), (63, 13)], [(58, 8), (64, 14)], [(65, 15)], [], [], [], [(67, 17), (68, 18), (69, 19)], [], [(70, 20), (71, 21)], [(66, 16), (72, 22)], [(73, 23)], [], [(74, 24), (75, 25)]] [[], [], [], [0, 1, 2], [], [], [0, 1, 2, 3, 4, 5], [0, 1, 2, 3, 4, 5, 6], [0, 1, 2, 3, 4, 5, 6, 7], [0, 1, 2, 3, 4, 5, 6, 7, 8], [0, 1, 2, 3, 4, 5, 6, 7, 8], [0, 1, 2, 3, 4, 5, 6, 7, 8], [0, 1, 2, 3, 4, 5, 6, 7, 8, 9, 10, 11], [0, 1, 2, 3, 4, 5, 6, 7, 8], [0, 1, 2, 3, 4, 5, 6, 7, 8, 9, 10, 11, 12, 13], [0, 1, 2, 3, 4, 5, 6, 7, 8, 9, 10, 11, 12, 13, 14], [0, 1, 2, 3, 4, 5, 6, 7, 8, 9, 10, 11, 12, 13, 14, 15], [0, 1, 2, 3, 4, 5, 6, 7, 8, 9, 10, 11, 12, 13, 14, 15, 16], [0, 1, 2, 3, 4, 5, 6, 7, 8, 9, 10, 11, 12, 13, 14, 15, 16], [0, 1, 2, 3, 4, 5, 6, 7, 8, 9, 10, 11, 12, 13, 14, 15, 16], [0, 1, 2, 3, 4, 5, 6, 7, 8, 9, 10, 11, 12, 13, 14, 15, 16, 17, 18, 19], [0, 1, 2, 3, 4, 5, 6, 7, 8, 9, 10, 11, 12, 13, 14, 15, 16], [0, 1, 2, 3, 4, 5, 6, 7, 8, 9, 10, 11, 12, 13, 14, 15, 16, 17, 18, 19, 20, 21], [0, 1, 2, 3, 4, 5, 6, 7, 8, 9, 10, 11, 12, 13, 14, 15, 16, 17, 18, 19, 20, 21, 22], [0, 1, 2, 3, 4, 5, 6, 7, 8, 9, 10, 11, 12, 13, 14, 15, 16, 17, 18, 19, 20, 21, 22, 23], [0, 1, 2, 3, 4, 5, 6, 7, 8, 9, 10, 11, 12, 13, 14, 15, 16, 17, 18, 19, 20, 21, 22, 23, 24], [0, 1, 2, 3, 4, 5, 6, 7, 8, 9, 10, 11, 12, 13, 14, 15, 16, 17, 18, 19, 20, 21, 22, 23, 24, 25]]
                    [fun v w' => RowsAt .i64 34 w' v [], fun v _ => v = .agg #[.int .i64 (a 0), .int .i64 (a 1), .int .i64 (a 2), .int .i64 (a 3), .int .i64 (a 4), .int .i64 (a 5), .int .i64 (a 6), .int .i64 (a 7)], fun v _ => v = .agg #[.int .i64 (d 0), .int .i64 (d 1), .int .i64 (d 2), .int .i64 (d 3), .int .i64 (d 4), .int .i64 (d 5), .int .i64 (d 6), .int .i64 (d 7)], fun v _ => v = .int .i64 (lex8 a d), fun v _ => v = .agg #[.int .i64 (a 0), .int .i64 (a 1), .int .i64 (a 2), .int .i64 (a 3), .int .i64 (a 4), .int .i64 (a 5), .int .i64 (a 6), .int .i64 (a 7)], fun v _ => v = .agg #[.int .i64 (d 0), .int .i64 (d 1), .int .i64 (d 2), .int .i64 (d 3), .int .i64 (d 4), .int .i64 (d 5), .int .i64 (d 6), .int .i64 (d 7)], fun v _ => v = .int .i64 (lex8 a d), fun v _ => v = .bool true, fun v _ => v = .bool true, fun v w' => RowsAt .i64 34 w' v [onesOf 255], fun v _ => v = .agg #[.int .i64 (a 0), .int .i64 (a 1), .int .i64 (a 2), .int .i64 (a 3), .int .i64 (a 4), .int .i64 (a 5), .int .i64 (a 6), .int .i64 (a 7)], fun v _ => v = .agg #[.int .i64 (d 0), .int .i64 (d 1), .int .i64 (d 2), .int .i64 (d 3), .int .i64 (d 4), .int .i64 (d 5), .int .i64 (d 6), .int .i64 (d 7)], fun v _ => v = .int .i64 (-1), fun v _ => v = .int .i64 (-1), fun v _ => v = .bool true, fun v _ => v = .bool true, fun v _ => v = .bool true, fun v w' => RowsAt .i64 34 w' v revRows, fun v _ => v = .agg #[.int .i64 (a 0), .int .i64 (a 1), .int .i64 (a 2), .int .i64 (a 3), .int .i64 (a 4), .int .i64 (a 5), .int .i64 (a 6), .int .i64 (a 7)], fun v _ => v = .agg #[.int .i64 (d 0), .int .i64 (d 1), .int .i64 (d 2), .int .i64 (d 3), .int .i64 (d 4), .int .i64 (d 5), .int .i64 (d 6), .int .i64 (d 7)], fun v _ => v = .int .i64 (-1), fun v _ => v = .int .i64 (-1), fun v _ => v = .bool true, fun v _ => v = .bool true, fun v _ => v = .bool true, fun v _ => v = .bool true, fun v _ => v = .bool true]
                    rfl (by kernel_rfl) (by kernel_rfl) ?stab ?steps ?fin
                  case stab => exact .cons (fun _ _ _ he h => h.ext he) (.cons (Stab.eq _) (.cons (Stab.eq _) (.cons (Stab.eq _) (.cons (Stab.eq _) (.cons (Stab.eq _) (.cons (Stab.eq _) (.cons (Stab.eq _) (.cons (Stab.eq _) (.cons (fun _ _ _ he h => h.ext he) (.cons (Stab.eq _) (.cons (Stab.eq _) (.cons (Stab.eq _) (.cons (Stab.eq _) (.cons (Stab.eq _) (.cons (Stab.eq _) (.cons (Stab.eq _) (.cons (fun _ _ _ he h => h.ext he) (.cons (Stab.eq _) (.cons (Stab.eq _) (.cons (Stab.eq _) (.cons (Stab.eq _) (.cons (Stab.eq _) (.cons (Stab.eq _) (.cons (Stab.eq _) (.cons (Stab.eq _) (.cons (Stab.eq _) .nil))))))))))))))))))))))))))
                  case steps =>
                    refine .cons ?s0 (.cons ?s1 (.cons ?s2 (.cons ?s3 (.cons ?s4 (.cons ?s5 (.cons ?s6 (.cons ?s7 (.cons ?s8 (.cons ?s9 (.cons ?s10 (.cons ?s11 (.cons ?s12 (.cons ?s13 (.cons ?s14 (.cons ?s15 (.cons ?s16 (.cons ?s17 (.cons ?s18 (.cons ?s19 (.cons ?s20 (.cons ?s21 (.cons ?s22 (.cons ?s23 (.cons ?s24 (.cons ?s25 (.cons ?s26 .nil))))))))))))))))))))))))))
                    case s0 =>
                      intro w' ev hE hk ha hc hf
                      refine opStep_call (by simp [execOp, resolve, invoke, hf, go_sem]) (Lex_any _) ?_
                      rintro e w1 ⟨A, c, rfl, hO, hE1⟩
                      exact ⟨_, rfl, hE1, hO.rows⟩
                    case s1 =>
                      intro w' ev hE hk ha hc hf
                      have e6 : ev (.tmp 6) = .pointer (some ⟨B6, 0, none⟩) := ha 6 (by decide)
                      have c0 : w'.cell? ⟨B6, 0, none⟩ = some (.int .i64 (a 0)) := hE.cellv (hb6.out.cell 0)
                      have c1 : w'.cell? ⟨B6, 1, none⟩ = some (.int .i64 (a 1)) := hE.cellv (hb6.out.cell 1)
                      have c2 : w'.cell? ⟨B6, 2, none⟩ = some (.int .i64 (a 2)) := hE.cellv (hb6.out.cell 2)
                      have c3 : w'.cell? ⟨B6, 3, none⟩ = some (.int .i64 (a 3)) := hE.cellv (hb6.out.cell 3)
                      have c4 : w'.cell? ⟨B6, 4, none⟩ = some (.int .i64 (a 4)) := hE.cellv (hb6.out.cell 4)
                      have c5 : w'.cell? ⟨B6, 5, none⟩ = some (.int .i64 (a 5)) := hE.cellv (hb6.out.cell 5)
                      have c6 : w'.cell? ⟨B6, 6, none⟩ = some (.int .i64 (a 6)) := hE.cellv (hb6.out.cell 6)
                      have c7 : w'.cell? ⟨B6, 7, none⟩ = some (.int .i64 (a 7)) := hE.cellv (hb6.out.cell 7)
                      exact opStep_val (by simp [execOp, e6, c0, c1, c2, c3, c4, c5, c6, c7, go_sem]) rfl
                    case s2 =>
                      intro w' ev hE hk ha hc hf
                      have e7 : ev (.tmp 7) = .pointer (some ⟨B7, 0, none⟩) := ha 7 (by decide)
                      have c0 : w'.cell? ⟨B7, 0, none⟩ = some (.int .i64 (d 0)) := hE.cellv (hb7.out.cell 0)
                      have c1 : w'.cell? ⟨B7, 1, none⟩ = some (.int .i64 (d 1)) := hE.cellv (hb7.out.cell 1)
                      have c2 : w'.cell? ⟨B7, 2, none⟩ = some (.int .i64 (d 2)) := hE.cellv (hb7.out.cell 2)
                      have c3 : w'.cell? ⟨B7, 3, none⟩ = some (.int .i64 (d 3)) := hE.cellv (hb7.out.cell 3)
                      have c4 : w'.cell? ⟨B7, 4, none⟩ = some (.int .i64 (d 4)) := hE.cellv (hb7.out.cell 4)
                      have c5 : w'.cell? ⟨B7, 5, none⟩ = some (.int .i64 (d 5)) := hE.cellv (hb7.out.cell 5)
                      have c6 : w'.cell? ⟨B7, 6, none⟩ = some (.int .i64 (d 6)) := hE.cellv (hb7.out.cell 6)
                      have c7 : w'.cell? ⟨B7, 7, none⟩ = some (.int .i64 (d 7)) := hE.cellv (hb7.out.cell 7)
                      exact opStep_val (by simp [execOp, e7, c0, c1, c2, c3, c4, c5, c6, c7, go_sem]) rfl
                    case s3 =>
                      intro w' ev hE hk ha hc hf
                      have f50 := hk.1 _ rfl
                      have e51 : ev (.tmp 51) = .agg #[.int .i64 (a 0), .int .i64 (a 1), .int .i64 (a 2), .int .i64 (a 3), .int .i64 (a 4), .int .i64 (a 5), .int .i64 (a 6), .int .i64 (a 7)] := hk.2.1 _ rfl
                      have e52 : ev (.tmp 52) = .agg #[.int .i64 (d 0), .int .i64 (d 1), .int .i64 (d 2), .int .i64 (d 3), .int .i64 (d 4), .int .i64 (d 5), .int .i64 (d 6), .int .i64 (d 7)] := hk.2.2.1 _ rfl
                      refine opStep_call (by simp [execOp, resolve, invoke, hf, e51, e52, go_sem]) (oCmp_any _ [] a d _ f50 hin0.out ha6.out hd6.out) ?_
                      rintro e w1 ⟨rfl, hE1⟩
                      exact ⟨_, rfl, hE1, by rw [oCmp_lex]⟩
                    case s4 =>
                      intro w' ev hE hk ha hc hf
                      have e6 : ev (.tmp 6) = .pointer (some ⟨B6, 0, none⟩) := ha 6 (by decide)
                      have c0 : w'.cell? ⟨B6, 0, none⟩ = some (.int .i64 (a 0)) := hE.cellv (hb6.out.cell 0)
                      have c1 : w'.cell? ⟨B6, 1, none⟩ = some (.int .i64 (a 1)) := hE.cellv (hb6.out.cell 1)
                      have c2 : w'.cell? ⟨B6, 2, none⟩ = some (.int .i64 (a 2)) := hE.cellv (hb6.out.cell 2)
                      have c3 : w'.cell? ⟨B6, 3, none⟩ = some (.int .i64 (a 3)) := hE.cellv (hb6.out.cell 3)
                      have c4 : w'.cell? ⟨B6, 4, none⟩ = some (.int .i64 (a 4)) := hE.cellv (hb6.out.cell 4)
                      have c5 : w'.cell? ⟨B6, 5, none⟩ = some (.int .i64 (a 5)) := hE.cellv (hb6.out.cell 5)
                      have c6 : w'.cell? ⟨B6, 6, none⟩ = some (.int .i64 (a 6)) := hE.cellv (hb6.out.cell 6)
                      have c7 : w'.cell? ⟨B6, 7, none⟩ = some (.int .i64 (a 7)) := hE.cellv (hb6.out.cell 7)
                      exact opStep_val (by simp [execOp, e6, c0, c1, c2, c3, c4, c5, c6, c7, go_sem]) rfl
                    case s5 =>
                      intro w' ev hE hk ha hc hf
                      have e7 : ev (.tmp 7) = .pointer (some ⟨B7, 0, none⟩) := ha 7 (by decide)
                      have c0 : w'.cell? ⟨B7, 0, none⟩ = some (.int .i64 (d 0)) := hE.cellv (hb7.out.cell 0)
                      have c1 : w'.cell? ⟨B7, 1, none⟩ = some (.int .i64 (d 1)) := hE.cellv (hb7.out.cell 1)
                      have c2 : w'.cell? ⟨B7, 2, none⟩ = some (.int .i64 (d 2)) := hE.cellv (hb7.out.cell 2)
                      have c3 : w'.cell? ⟨B7, 3, none⟩ = some (.int .i64 (d 3)) := hE.cellv (hb7.out.cell 3)
                      have c4 : w'.cell? ⟨B7, 4, none⟩ = some (.int .i64 (d 4)) := hE.cellv (hb7.out.cell 4)
                      have c5 : w'.cell? ⟨B7, 5, none⟩ = some (.int .i64 (d 5)) := hE.cellv (hb7.out.cell 5)
                      have c6 : w'.cell? ⟨B7, 6, none⟩ = some (.int .i64 (d 6)) := hE.cellv (hb7.out.cell 6)
                      have c7 : w'.cell? ⟨B7, 7, none⟩ = some (.int .i64 (d 7)) := hE.cellv (hb7.out.cell 7)
                      exact opStep_val (by simp [execOp, e7, c0, c1, c2, c3, c4, c5, c6, c7, go_sem]) rfl
                    case s6 =>
                      intro w' ev hE hk ha hc hf
                      have e54 : ev (.tmp 54) = .agg #[.int .i64 (a 0), .int .i64 (a 1), .int .i64 (a 2), .int .i64 (a 3), .int .i64 (a 4), .int .i64 (a 5), .int .i64 (a 6), .int .i64 (a 7)] := hk.1 _ rfl
                      have e55 : ev (.tmp 55) = .agg #[.int .i64 (d 0), .int .i64 (d 1), .int .i64 (d 2), .int .i64 (d 3), .int .i64 (d 4), .int .i64 (d 5), .int .i64 (d 6), .int .i64 (d 7)] := hk.2.1 _ rfl
                      refine opStep_call (by simp [execOp, resolve, invoke, hf, e54, e55, go_sem]) (mCmp_any a d _) ?_
                      rintro e w1 ⟨rfl, hE1⟩
                      exact ⟨_, rfl, hE1, rfl⟩
                    case s7 =>
                      intro w' ev hE hk ha hc hf
                      have e53 : ev (.tmp 53) = .int .i64 (lex8 a d) := hk.1 _ rfl
                      have e56 : ev (.tmp 56) = .int .i64 (lex8 a d) := hk.2.1 _ rfl
                      exact opStep_val (by simp [execOp, e53, e56, hc, go_sem]) rfl
                    case s8 =>
                      intro w' ev hE hk ha hc hf
                      have e57 : ev (.tmp 57) = .bool true := hk.1 _ rfl
                      exact opStep_val (by simp [execOp, e57, go_sem]) rfl
                    case s9 =>
                      intro w' ev hE hk ha hc hf
                      intro gv hg
                      have hgv := hg _ rfl
                      refine ⟨fun hgt => ?_, fun hgf => ?_⟩
                      · skip
                        refine opStep_call (by simp [execOp, resolve, invoke, hf, go_sem]) (Graded_any _) ?_
                        rintro e w1 ⟨A, c, rfl, hO, hE1⟩
                        exact ⟨_, rfl, hE1, hO.rows⟩
                      · exact absurd hgv hgf
                    case s10 =>
                      intro w' ev hE hk ha hc hf
                      intro gv hg
                      have hgv := hg _ rfl
                      refine ⟨fun hgt => ?_, fun hgf => ?_⟩
                      · skip
                        have e6 : ev (.tmp 6) = .pointer (some ⟨B6, 0, none⟩) := ha 6 (by decide)
                        have c0 : w'.cell? ⟨B6, 0, none⟩ = some (.int .i64 (a 0)) := hE.cellv (hb6.out.cell 0)
                        have c1 : w'.cell? ⟨B6, 1, none⟩ = some (.int .i64 (a 1)) := hE.cellv (hb6.out.cell 1)
                        have c2 : w'.cell? ⟨B6, 2, none⟩ = some (.int .i64 (a 2)) := hE.cellv (hb6.out.cell 2)
                        have c3 : w'.cell? ⟨B6, 3, none⟩ = some (.int .i64 (a 3)) := hE.cellv (hb6.out.cell 3)
                        have c4 : w'.cell? ⟨B6, 4, none⟩ = some (.int .i64 (a 4)) := hE.cellv (hb6.out.cell 4)
                        have c5 : w'.cell? ⟨B6, 5, none⟩ = some (.int .i64 (a 5)) := hE.cellv (hb6.out.cell 5)
                        have c6 : w'.cell? ⟨B6, 6, none⟩ = some (.int .i64 (a 6)) := hE.cellv (hb6.out.cell 6)
                        have c7 : w'.cell? ⟨B6, 7, none⟩ = some (.int .i64 (a 7)) := hE.cellv (hb6.out.cell 7)
                        exact opStep_val (by simp [execOp, e6, c0, c1, c2, c3, c4, c5, c6, c7, go_sem]) rfl
                      · exact absurd hgv hgf
                    case s11 =>
                      intro w' ev hE hk ha hc hf
                      intro gv hg
                      have hgv := hg _ rfl
                      refine ⟨fun hgt => ?_, fun hgf => ?_⟩
                      · skip
                        have e7 : ev (.tmp 7) = .pointer (some ⟨B7, 0, none⟩) := ha 7 (by decide)
                        have c0 : w'.cell? ⟨B7, 0, none⟩ = some (.int .i64 (d 0)) := hE.cellv (hb7.out.cell 0)
                        have c1 : w'.cell? ⟨B7, 1, none⟩ = some (.int .i64 (d 1)) := hE.cellv (hb7.out.cell 1)
                        have c2 : w'.cell? ⟨B7, 2, none⟩ = some (.int .i64 (d 2)) := hE.cellv (hb7.out.cell 2)
                        have c3 : w'.cell? ⟨B7, 3, none⟩ = some (.int .i64 (d 3)) := hE.cellv (hb7.out.cell 3)
                        have c4 : w'.cell? ⟨B7, 4, none⟩ = some (.int .i64 (d 4)) := hE.cellv (hb7.out.cell 4)
                        have c5 : w'.cell? ⟨B7, 5, none⟩ = some (.int .i64 (d 5)) := hE.cellv (hb7.out.cell 5)
                        have c6 : w'.cell? ⟨B7, 6, none⟩ = some (.int .i64 (d 6)) := hE.cellv (hb7.out.cell 6)
                        have c7 : w'.cell? ⟨B7, 7, none⟩ = some (.int .i64 (d 7)) := hE.cellv (hb7.out.cell 7)
                        exact opStep_val (by simp [execOp, e7, c0, c1, c2, c3, c4, c5, c6, c7, go_sem]) rfl
                      · exact absurd hgv hgf
                    case s12 =>
                      intro w' ev hE hk ha hc hf
                      intro gv hg
                      have hgv := hg _ rfl
                      refine ⟨fun hgt => ?_, fun hgf => ?_⟩
                      · skip
                        have f59 := hk.1 _ rfl
                        have e60 : ev (.tmp 60) = .agg #[.int .i64 (a 0), .int .i64 (a 1), .int .i64 (a 2), .int .i64 (a 3), .int .i64 (a 4), .int .i64 (a 5), .int .i64 (a 6), .int .i64 (a 7)] := hk.2.1 _ rfl
                        have e61 : ev (.tmp 61) = .agg #[.int .i64 (d 0), .int .i64 (d 1), .int .i64 (d 2), .int .i64 (d 3), .int .i64 (d 4), .int .i64 (d 5), .int .i64 (d 6), .int .i64 (d 7)] := hk.2.2.1 _ rfl
                        refine opStep_call (by simp [execOp, resolve, invoke, hf, e60, e61, go_sem]) (oCmp_any _ [onesOf 255] a d _ f59 hin1.out ha6.out hd6.out) ?_
                        rintro e w1 ⟨rfl, hE1⟩
                        exact ⟨_, rfl, hE1, by rw [hgr.out]⟩
                      · exact absurd hgv hgf
                    case s13 =>
                      intro w' ev hE hk ha hc hf
                      intro gv hg
                      have hgv := hg _ rfl
                      refine ⟨fun hgt => ?_, fun hgf => ?_⟩
                      · skip
                        have e8 : ev (.tmp 8) = .int .i64 (-1) := ha 8 (by decide)
                        exact opStep_val (by simp [execOp, e8, go_sem]) rfl
                      · exact absurd hgv hgf
                    case s14 =>
                      intro w' ev hE hk ha hc hf
                      intro gv hg
                      have hgv := hg _ rfl
                      refine ⟨fun hgt => ?_, fun hgf => ?_⟩
                      · skip
                        have e62 : ev (.tmp 62) = .int .i64 (-1) := hk.1 _ rfl
                        have e63 : ev (.tmp 63) = .int .i64 (-1) := hk.2.1 _ rfl
                        exact opStep_val (by simp [execOp, e62, e63, hc, go_sem]) rfl
                      · exact absurd hgv hgf
                    case s15 =>
                      intro w' ev hE hk ha hc hf
                      have e58 : ev (.tmp 58) = .bool true := hk.1 _ rfl
                      have e64 : ev (.tmp 64) = .bool true := hk.2.1 _ rfl
                      exact opStep_val (by simp [execOp, e58, e64, hc, go_sem]) rfl
                    case s16 =>
                      intro w' ev hE hk ha hc hf
                      have e65 : ev (.tmp 65) = .bool true := hk.1 _ rfl
                      exact opStep_val (by simp [execOp, e65, go_sem]) rfl
                    case s17 =>
                      intro w' ev hE hk ha hc hf
                      intro gv hg
                      have hgv := hg _ rfl
                      refine ⟨fun hgt => ?_, fun hgf => ?_⟩
                      · skip
                        refine opStep_call (by simp [execOp, resolve, invoke, hf, go_sem]) (Reverse_any _) ?_
                        rintro e w1 ⟨A, c, rfl, hO, hE1⟩
                        exact ⟨_, rfl, hE1, hO.rows⟩
                      · exact absurd hgv hgf
                    case s18 =>
                      intro w' ev hE hk ha hc hf
                      intro gv hg
                      have hgv := hg _ rfl
                      refine ⟨fun hgt => ?_, fun hgf => ?_⟩
                      · skip
                        have e6 : ev (.tmp 6) = .pointer (some ⟨B6, 0, none⟩) := ha 6 (by decide)
                        have c0 : w'.cell? ⟨B6, 0, none⟩ = some (.int .i64 (a 0)) := hE.cellv (hb6.out.cell 0)
                        have c1 : w'.cell? ⟨B6, 1, none⟩ = some (.int .i64 (a 1)) := hE.cellv (hb6.out.cell 1)
                        have c2 : w'.cell? ⟨B6, 2, none⟩ = some (.int .i64 (a 2)) := hE.cellv (hb6.out.cell 2)
                        have c3 : w'.cell? ⟨B6, 3, none⟩ = some (.int .i64 (a 3)) := hE.cellv (hb6.out.cell 3)
                        have c4 : w'.cell? ⟨B6, 4, none⟩ = some (.int .i64 (a 4)) := hE.cellv (hb6.out.cell 4)
                        have c5 : w'.cell? ⟨B6, 5, none⟩ = some (.int .i64 (a 5)) := hE.cellv (hb6.out.cell 5)
                        have c6 : w'.cell? ⟨B6, 6, none⟩ = some (.int .i64 (a 6)) := hE.cellv (hb6.out.cell 6)
                        have c7 : w'.cell? ⟨B6, 7, none⟩ = some (.int .i64 (a 7)) := hE.cellv (hb6.out.cell 7)
                        exact opStep_val (by simp [execOp, e6, c0, c1, c2, c3, c4, c5, c6, c7, go_sem]) rfl
                      · exact absurd hgv hgf
                    case s19 =>
                      intro w' ev hE hk ha hc hf
                      intro gv hg
                      have hgv := hg _ rfl
                      refine ⟨fun hgt => ?_, fun hgf => ?_⟩
                      · skip
                        have e7 : ev (.tmp 7) = .pointer (some ⟨B7, 0, none⟩) := ha 7 (by decide)
                        have c0 : w'.cell? ⟨B7, 0, none⟩ = some (.int .i64 (d 0)) := hE.cellv (hb7.out.cell 0)
                        have c1 : w'.cell? ⟨B7, 1, none⟩ = some (.int .i64 (d 1)) := hE.cellv (hb7.out.cell 1)
                        have c2 : w'.cell? ⟨B7, 2, none⟩ = some (.int .i64 (d 2)) := hE.cellv (hb7.out.cell 2)
                        have c3 : w'.cell? ⟨B7, 3, none⟩ = some (.int .i64 (d 3)) := hE.cellv (hb7.out.cell 3)
                        have c4 : w'.cell? ⟨B7, 4, none⟩ = some (.int .i64 (d 4)) := hE.cellv (hb7.out.cell 4)
                        have c5 : w'.cell? ⟨B7, 5, none⟩ = some (.int .i64 (d 5)) := hE.cellv (hb7.out.cell 5)
                        have c6 : w'.cell? ⟨B7, 6, none⟩ = some (.int .i64 (d 6)) := hE.cellv (hb7.out.cell 6)
                        have c7 : w'.cell? ⟨B7, 7, none⟩ = some (.int .i64 (d 7)) := hE.cellv (hb7.out.cell 7)
                        exact opStep_val (by simp [execOp, e7, c0, c1, c2, c3, c4, c5, c6, c7, go_sem]) rfl
                      · exact absurd hgv hgf
                    case s20 =>
                      intro w' ev hE hk ha hc hf
                      intro gv hg
                      have hgv := hg _ rfl
                      refine ⟨fun hgt => ?_, fun hgf => ?_⟩
                      · skip
                        have f67 := hk.1 _ rfl
                        have e68 : ev (.tmp 68) = .agg #[.int .i64 (a 0), .int .i64 (a 1), .int .i64 (a 2), .int .i64 (a 3), .int .i64 (a 4), .int .i64 (a 5), .int .i64 (a 6), .int .i64 (a 7)] := hk.2.1 _ rfl
                        have e69 : ev (.tmp 69) = .agg #[.int .i64 (d 0), .int .i64 (d 1), .int .i64 (d 2), .int .i64 (d 3), .int .i64 (d 4), .int .i64 (d 5), .int .i64 (d 6), .int .i64 (d 7)] := hk.2.2.1 _ rfl
                        refine opStep_call (by simp [execOp, resolve, invoke, hf, e68, e69, go_sem]) (oCmp_any _ revRows a d _ f67 hin2.out ha6.out hd6.out) ?_
                        rintro e w1 ⟨rfl, hE1⟩
                        exact ⟨_, rfl, hE1, by rw [hrv.out]⟩
                      · exact absurd hgv hgf
                    case s21 =>
                      intro w' ev hE hk ha hc hf
                      intro gv hg
                      have hgv := hg _ rfl
                      refine ⟨fun hgt => ?_, fun hgf => ?_⟩
                      · skip
                        have e9 : ev (.tmp 9) = .int .i64 (-1) := ha 9 (by decide)
                        exact opStep_val (by simp [execOp, e9, go_sem]) rfl
                      · exact absurd hgv hgf
                    case s22 =>
                      intro w' ev hE hk ha hc hf
                      intro gv hg
                      have hgv := hg _ rfl
                      refine ⟨fun hgt => ?_, fun hgf => ?_⟩
                      · skip
                        have e70 : ev (.tmp 70) = .int .i64 (-1) := hk.1 _ rfl
                        have e71 : ev (.tmp 71) = .int .i64 (-1) := hk.2.1 _ rfl
                        exact opStep_val (by simp [execOp, e70, e71, hc, go_sem]) rfl
                      · exact absurd hgv hgf
                    case s23 =>
                      intro w' ev hE hk ha hc hf
                      have e66 : ev (.tmp 66) = .bool true := hk.1 _ rfl
                      have e72 : ev (.tmp 72) = .bool true := hk.2.1 _ rfl
                      exact opStep_val (by simp [execOp, e66, e72, hc, go_sem]) rfl
                    case s24 =>
                      intro w' ev hE hk ha hc hf
                      have e73 : ev (.tmp 73) = .bool true := hk.1 _ rfl
                      exact opStep_val (by simp [execOp, e73, go_sem]) rfl
                    case s25 =>
                      intro w' ev hE hk ha hc hf
                      intro gv hg
                      have hgv := hg _ rfl
                      refine ⟨fun hgt => ?_, fun hgf => ?_⟩
                      · skip
                        have e5 : ev (.tmp 5) = .bool true := ha 5 (by decide)
                        exact opStep_val (by simp [execOp, e5, go_sem]) rfl
                      · exact absurd hgv hgf
                    case s26 =>
                      intro w' ev hE hk ha hc hf
                      have e74 : ev (.tmp 74) = .bool true := hk.1 _ rfl
                      have e75 : ev (.tmp 75) = .bool true := hk.2.1 _ rfl
                      exact opStep_val (by simp [execOp, e74, e75, hc, go_sem]) rfl
                  case fin =>
                    intro g w' hE hF
                    have e26 := hF 26 _ rfl
                    simp only [List.length_cons, List.length_nil, Nat.reduceAdd, List.drop_succ_cons, List.drop_zero, List.take_succ_cons, List.take_zero, putG, Act.put, List.setIfInBounds_toArray, List.set_cons_succ, List.set_cons_zero, e26]
                    go_wp2
                    go_ret
                    exact ⟨rfl, hEw.out.trans ((Ext.refl _).drew.trans hE)⟩
            · have hgr : Hid (oCmp [onesOf 255] a d = lex8 a d) := hide (by rw [ocg.out, if_neg (by omega), if_neg (by omega)])
              have hrv : Hid (oCmp revRows a d = lastTo a d 8) := hide (by rw [ocr.out, if_neg (by omega), if_neg (by omega)])
              have h1 : decide (sumTo a 8 < sumTo d 8) = false := by simp; omega
              have h2 : decide (sumTo d 8 < sumTo a 8) = false := by simp; omega
              have h3 : ¬ sumTo a 8 < sumTo d 8 := by omega
              have h4 : ¬ sumTo d 8 < sumTo a 8 := by omega
              replace h1 := hide h1
              replace h2 := hide h2
              clear ocg ocr hlt
              go_upto_region 10 with (fail)
              refine wp_region_v (by kernel_rfl) [[], [(40, 0)], [], [(42, 2)], [(41, 1), (43, 3)]] [[], [0], [], [0, 1, 2], [0, 1, 2, 3]]
                [fun v _ => v = .agg #[.int .i64 (a 0), .int .i64 (a 1), .int .i64 (a 2), .int .i64 (a 3), .int .i64 (a 4), .int .i64 (a 5), .int .i64 (a 6), .int .i64 (a 7)], fun v _ => v = .int .i64 (sumTo a 8), fun v _ => v = .agg #[.int .i64 (d 0), .int .i64 (d 1), .int .i64 (d 2), .int .i64 (d 3), .int .i64 (d 4), .int .i64 (d 5), .int .i64 (d 6), .int .i64 (d 7)], fun v _ => v = .int .i64 (sumTo d 8), fun v _ => v = .bool false]
                rfl (by kernel_rfl) (by kernel_rfl) ?stab ?steps ?fin
              case stab => exact .cons (Stab.eq _) (.cons (Stab.eq _) (.cons (Stab.eq _) (.cons (Stab.eq _) (.cons (Stab.eq _) .nil))))
              case steps =>
                refine .cons ?s0 (.cons ?s1 (.cons ?s2 (.cons ?s3 (.cons ?s4 .nil))))
                case s0 =>
                  intro w' ev hE hk ha hc hf
                  have e6 : ev (.tmp 6) = .pointer (some ⟨B6, 0, none⟩) := ha 6 (by decide)
                  have c0 : w'.cell? ⟨B6, 0, none⟩ = some (.int .i64 (a 0)) := hE.cellv (hb6.out.cell 0)
                  have c1 : w'.cell? ⟨B6, 1, none⟩ = some (.int .i64 (a 1)) := hE.cellv (hb6.out.cell 1)
                  have c2 : w'.cell? ⟨B6, 2, none⟩ = some (.int .i64 (a 2)) := hE.cellv (hb6.out.cell 2)
                  have c3 : w'.cell? ⟨B6, 3, none⟩ = some (.int .i64 (a 3)) := hE.cellv (hb6.out.cell 3)
                  have c4 : w'.cell? ⟨B6, 4, none⟩ = some (.int .i64 (a 4)) := hE.cellv (hb6.out.cell 4)
                  have c5 : w'.cell? ⟨B6, 5, none⟩ = some (.int .i64 (a 5)) := hE.cellv (hb6.out.cell 5)
                  have c6 : w'.cell? ⟨B6, 6, none⟩ = some (.int .i64 (a 6)) := hE.cellv (hb6.out.cell 6)
                  have c7 : w'.cell? ⟨B6, 7, none⟩ = some (.int .i64 (a 7)) := hE.cellv (hb6.out.cell 7)
                  exact opStep_val (by simp [execOp, e6, c0, c1, c2, c3, c4, c5, c6, c7, go_sem]) rfl
                case s1 =>
                  intro w' ev hE hk ha hc hf
                  have e40 : ev (.tmp 40) = .agg #[.int .i64 (a 0), .int .i64 (a 1), .int .i64 (a 2), .int .i64 (a 3), .int .i64 (a 4), .int .i64 (a 5), .int .i64 (a 6), .int .i64 (a 7)] := hk.1 _ rfl
                  refine opStep_call (by simp [execOp, resolve, invoke, hf, e40, go_sem]) (Degree_any a _ ha6.out) ?_
                  rintro e w1 ⟨rfl, hE1⟩
                  exact ⟨_, rfl, hE1, rfl⟩
                case s2 =>
                  intro w' ev hE hk ha hc hf
                  have e7 : ev (.tmp 7) = .pointer (some ⟨B7, 0, none⟩) := ha 7 (by decide)
                  have c0 : w'.cell? ⟨B7, 0, none⟩ = some (.int .i64 (d 0)) := hE.cellv (hb7.out.cell 0)
                  have c1 : w'.cell? ⟨B7, 1, none⟩ = some (.int .i64 (d 1)) := hE.cellv (hb7.out.cell 1)
                  have c2 : w'.cell? ⟨B7, 2, none⟩ = some (.int .i64 (d 2)) := hE.cellv (hb7.out.cell 2)
                  have c3 : w'.cell? ⟨B7, 3, none⟩ = some (.int .i64 (d 3)) := hE.cellv (hb7.out.cell 3)
                  have c4 : w'.cell? ⟨B7, 4, none⟩ = some (.int .i64 (d 4)) := hE.cellv (hb7.out.cell 4)
                  have c5 : w'.cell? ⟨B7, 5, none⟩ = some (.int .i64 (d 5)) := hE.cellv (hb7.out.cell 5)
                  have c6 : w'.cell? ⟨B7, 6, none⟩ = some (.int .i64 (d 6)) := hE.cellv (hb7.out.cell 6)
                  have c7 : w'.cell? ⟨B7, 7, none⟩ = some (.int .i64 (d 7)) := hE.cellv (hb7.out.cell 7)
                  exact opStep_val (by simp [execOp, e7, c0, c1, c2, c3, c4, c5, c6, c7, go_sem]) rfl
                case s3 =>
                  intro w' ev hE hk ha hc hf
                  have e42 : ev (.tmp 42) = .agg #[.int .i64 (d 0), .int .i64 (d 1), .int .i64 (d 2), .int .i64 (d 3), .int .i64 (d 4), .int .i64 (d 5), .int .i64 (d 6), .int .i64 (d 7)] := hk.1 _ rfl
                  refine opStep_call (by simp [execOp, resolve, invoke, hf, e42, go_sem]) (Degree_any d _ hd6.out) ?_
                  rintro e w1 ⟨rfl, hE1⟩
                  exact ⟨_, rfl, hE1, rfl⟩
                case s4 =>
                  intro w' ev hE hk ha hc hf
                  have e41 : ev (.tmp 41) = .int .i64 (sumTo a 8) := hk.1 _ rfl
                  have e43 : ev (.tmp 43) = .int .i64 (sumTo d 8) := hk.2.1 _ rfl
                  exact opStep_val (by simp [execOp, e41, e43, h1.out, h3, go_sem]) rfl
              case fin =>
                intro g w' hE hF
                have e4 := hF 4 _ rfl
                simp only [List.length_cons, List.length_nil, Nat.reduceAdd, List.drop_succ_cons, List.drop_zero, List.take_succ_cons, List.take_zero, putG, Act.put, List.setIfInBounds_toArray, List.set_cons_succ, List.set_cons_zero, e4]
                replace hE := hide ((Ext.refl _).drew.trans hE)
                replace hb6 := hide (hb6.out.ext hE.out)
                replace hb7 := hide (hb7.out.ext hE.out)
                replace hEw := hide (hEw.out.trans hE.out)
                clear hF hE
                clear e4
                go_upto_region 12 with (fail)
                refine wp_region_v (by kernel_rfl) [[], [(45, 0)], [], [(47, 2)], [(46, 1), (48, 3)]] [[], [0], [], [0, 1, 2], [0, 1, 2, 3]]
                  [fun v _ => v = .agg #[.int .i64 (a 0), .int .i64 (a 1), .int .i64 (a 2), .int .i64 (a 3), .int .i64 (a 4), .int .i64 (a 5), .int .i64 (a 6), .int .i64 (a 7)], fun v _ => v = .int .i64 (sumTo a 8), fun v _ => v = .agg #[.int .i64 (d 0), .int .i64 (d 1), .int .i64 (d 2), .int .i64 (d 3), .int .i64 (d 4), .int .i64 (d 5), .int .i64 (d 6), .int .i64 (d 7)], fun v _ => v = .int .i64 (sumTo d 8), fun v _ => v = .bool false]
                  rfl (by kernel_rfl) (by kernel_rfl) ?stab ?steps ?fin
                case stab => exact .cons (Stab.eq _) (.cons (Stab.eq _) (.cons (Stab.eq _) (.cons (Stab.eq _) (.cons (Stab.eq _) .nil))))
                case steps =>
                  refine .cons ?s0 (.cons ?s1 (.cons ?s2 (.cons ?s3 (.cons ?s4 .nil))))
                  case s0 =>
                    intro w' ev hE hk ha hc hf
                    have e6 : ev (.tmp 6) = .pointer (some ⟨B6, 0, none⟩) := ha 6 (by decide)
                    have c0 : w'.cell? ⟨B6, 0, none⟩ = some (.int .i64 (a 0)) := hE.cellv (hb6.out.cell 0)
                    have c1 : w'.cell? ⟨B6, 1, none⟩ = some (.int .i64 (a 1)) := hE.cellv (hb6.out.cell 1)
                    have c2 : w'.cell? ⟨B6, 2, none⟩ = some (.int .i64 (a 2)) := hE.cellv (hb6.out.cell 2)
                    have c3 : w'.cell? ⟨B6, 3, none⟩ = some (.int .i64 (a 3)) := hE.cellv (hb6.out.cell 3)
                    have c4 : w'.cell? ⟨B6, 4, none⟩ = some (.int .i64 (a 4)) := hE.cellv (hb6.out.cell 4)
                    have c5 : w'.cell? ⟨B6, 5, none⟩ = some (.int .i64 (a 5)) := hE.cellv (hb6.out.cell 5)
                    have c6 : w'.cell? ⟨B6, 6, none⟩ = some (.int .i64 (a 6)) := hE.cellv (hb6.out.cell 6)
                    have c7 : w'.cell? ⟨B6, 7, none⟩ = some (.int .i64 (a 7)) := hE.cellv (hb6.out.cell 7)
                    exact opStep_val (by simp [execOp, e6, c0, c1, c2, c3, c4, c5, c6, c7, go_sem]) rfl
                  case s1 =>
                    intro w' ev hE hk ha hc hf
                    have e45 : ev (.tmp 45) = .agg #[.int .i64 (a 0), .int .i64 (a 1), .int .i64 (a 2), .int .i64 (a 3), .int .i64 (a 4), .int .i64 (a 5), .int .i64 (a 6), .int .i64 (a 7)] := hk.1 _ rfl
                    refine opStep_call (by simp [execOp, resolve, invoke, hf, e45, go_sem]) (Degree_any a _ ha6.out) ?_
                    rintro e w1 ⟨rfl, hE1⟩
                    exact ⟨_, rfl, hE1, rfl⟩
                  case s2 =>
                    intro w' ev hE hk ha hc hf
                    have e7 : ev (.tmp 7) = .pointer (some ⟨B7, 0, none⟩) := ha 7 (by decide)
                    have c0 : w'.cell? ⟨B7, 0, none⟩ = some (.int .i64 (d 0)) := hE.cellv (hb7.out.cell 0)
                    have c1 : w'.cell? ⟨B7, 1, none⟩ = some (.int .i64 (d 1)) := hE.cellv (hb7.out.cell 1)
                    have c2 : w'.cell? ⟨B7, 2, none⟩ = some (.int .i64 (d 2)) := hE.cellv (hb7.out.cell 2)
                    have c3 : w'.cell? ⟨B7, 3, none⟩ = some (.int .i64 (d 3)) := hE.cellv (hb7.out.cell 3)
                    have c4 : w'.cell? ⟨B7, 4, none⟩ = some (.int .i64 (d 4)) := hE.cellv (hb7.out.cell 4)
                    have c5 : w'.cell? ⟨B7, 5, none⟩ = some (.int .i64 (d 5)) := hE.cellv (hb7.out.cell 5)
                    have c6 : w'.cell? ⟨B7, 6, none⟩ = some (.int .i64 (d 6)) := hE.cellv (hb7.out.cell 6)
                    have c7 : w'.cell? ⟨B7, 7, none⟩ = some (.int .i64 (d 7)) := hE.cellv (hb7.out.cell 7)
                    exact opStep_val (by simp [execOp, e7, c0, c1, c2, c3, c4, c5, c6, c7, go_sem]) rfl
                  case s3 =>
                    intro w' ev hE hk ha hc hf
                    have e47 : ev (.tmp 47) = .agg #[.int .i64 (d 0), .int .i64 (d 1), .int .i64 (d 2), .int .i64 (d 3), .int .i64 (d 4), .int .i64 (d 5), .int .i64 (d 6), .int .i64 (d 7)] := hk.1 _ rfl
                    refine opStep_call (by simp [execOp, resolve, invoke, hf, e47, go_sem]) (Degree_any d _ hd6.out) ?_
                    rintro e w1 ⟨rfl, hE1⟩
                    exact ⟨_, rfl, hE1, rfl⟩
                  case s4 =>
                    intro w' ev hE hk ha hc hf
                    have e46 : ev (.tmp 46) = .int .i64 (sumTo a 8) := hk.1 _ rfl
                    have e48 : ev (.tmp 48) = .int .i64 (sumTo d 8) := hk.2.1 _ rfl
                    exact opStep_val (by simp [execOp, e46, e48, h2.out, h4, go_sem]) rfl
                case fin =>
                  intro g w' hE hF
                  have e4 := hF 4 _ rfl
                  simp only [List.length_cons, List.length_nil, Nat.reduceAdd, List.drop_succ_cons, List.drop_zero, List.take_succ_cons, List.take_zero, putG, Act.put, List.setIfInBounds_toArray, List.set_cons_succ, List.set_cons_zero, e4]
                  replace hE := hide ((Ext.refl _).drew.trans hE)
                  replace hb6 := hide (hb6.out.ext hE.out)
                  replace hb7 := hide (hb7.out.ext hE.out)
                  replace hEw := hide (hEw.out.trans hE.out)
                  clear hF hE
                  clear e4
                  go_upto_region 14 with (fail)
                  refine wp_region_v (by kernel_rfl) [[], [], [], [(50, 0), (51, 1), (52, 2)], [], [], [(54, 4), (55, 5)], [(53, 3), (56, 6)], [(57, 7)], [], [], [], [(59, 9), (60, 10), (61, 11)], [], [(62, 12), (63, 13)], [(58, 8), (64, 14)], [(65, 15)], [], [], [], [(67, 17), (68, 18), (69, 19)], [], [(70, 20), (71, 21)], [(66, 16), (72, 22)], [(73, 23)], [], [(74, 24), (75, 25)]] [[], [], [], [0, 1, 2], [], [], [0, 1, 2, 3, 4, 5], [0, 1, 2, 3, 4, 5, 6], [0, 1, 2, 3, 4, 5, 6, 7], [0, 1, 2, 3, 4, 5, 6, 7, 8], [0, 1, 2, 3, 4, 5, 6, 7, 8], [0, 1, 2, 3, 4, 5, 6, 7, 8], [0, 1, 2, 3, 4, 5, 6, 7, 8, 9, 10, 11], [0, 1, 2, 3, 4, 5, 6, 7, 8], [0, 1, 2, 3, 4, 5, 6, 7, 8, 9, 10, 11, 12, 13], [0, 1, 2, 3, 4, 5, 6, 7, 8, 9, 10, 11, 12, 13, 14], [0, 1, 2, 3, 4, 5, 6, 7, 8, 9, 10, 11, 12, 13, 14, 15], [0, 1, 2, 3, 4, 5, 6, 7, 8, 9, 10, 11, 12, 13, 14, 15, 16], [0, 1, 2, 3, 4, 5, 6, 7, 8, 9, 10, 11, 12, 13, 14, 15, 16], [0, 1, 2, 3, 4, 5, 6, 7, 8, 9, 10, 11, 12, 13, 14, 15, 16], [0, 1, 2, 3, 4, 5, 6, 7, 8, 9, 10, 11, 12, 13, 14, 15, 16, 17, 18, 19], [0, 1, 2, 3, 4, 5, 6, 7, 8, 9, 10, 11, 12, 13, 14, 15, 16], [0, 1, 2, 3, 4, 5, 6, 7, 8, 9, 10, 11, 12, 13, 14, 15, 16, 17, 18, 19, 20, 21], [0, 1, 2, 3, 4, 5, 6, 7, 8, 9, 10, 11, 12, 13, 14, 15, 16, 17, 18, 19, 20, 21, 22], [0, 1, 2, 3, 4, 5, 6, 7, 8, 9, 10, 11, 12, 13, 14, 15, 16, 17, 18, 19, 20, 21, 22, 23], [0, 1, 2, 3, 4, 5, 6, 7, 8, 9, 10, 11, 12, 13, 14, 15, 16, 17, 18, 19, 20, 21, 22, 23, 24], [0, 1, 2, 3, 4, 5, 6, 7, 8, 9, 10, 11, 12, 13, 14, 15, 16, 17, 18, 19, 20, 21, 22, 23, 24, 25]]
                    [fun v w' => RowsAt .i64 34 w' v [], fun v _ => v = .agg #[.int .i64 (a 0), .int .i64 (a 1), .int .i64 (a 2), .int .i64 (a 3), .int .i64 (a 4), .int .i64 (a 5), .int .i64 (a 6), .int .i64 (a 7)], fun v _ => v = .agg #[.int .i64 (d 0), .int .i64 (d 1), .int .i64 (d 2), .int .i64 (d 3), .int .i64 (d 4), .int .i64 (d 5), .int .i64 (d 6), .int .i64 (d 7)], fun v _ => v = .int .i64 (lex8 a d), fun v _ => v = .agg #[.int .i64 (a 0), .int .i64 (a 1), .int .i64 (a 2), .int .i64 (a 3), .int .i64 (a 4), .int .i64 (a 5), .int .i64 (a 6), .int .i64 (a 7)], fun v _ => v = .agg #[.int .i64 (d 0), .int .i64 (d 1), .int .i64 (d 2), .int .i64 (d 3), .int .i64 (d 4), .int .i64 (d 5), .int .i64 (d 6), .int .i64 (d 7)], fun v _ => v = .int .i64 (lex8 a d), fun v _ => v = .bool true, fun v _ => v = .bool true, fun v w' => RowsAt .i64 34 w' v [onesOf 255], fun v _ => v = .agg #[.int .i64 (a 0), .int .i64 (a 1), .int .i64 (a 2), .int .i64 (a 3), .int .i64 (a 4), .int .i64 (a 5), .int .i64 (a 6), .int .i64 (a 7)], fun v _ => v = .agg #[.int .i64 (d 0), .int .i64 (d 1), .int .i64 (d 2), .int .i64 (d 3), .int .i64 (d 4), .int .i64 (d 5), .int .i64 (d 6), .int .i64 (d 7)], fun v _ => v = .int .i64 (lex8 a d), fun v _ => v = .int .i64 (lex8 a d), fun v _ => v = .bool true, fun v _ => v = .bool true, fun v _ => v = .bool true, fun v w' => RowsAt .i64 34 w' v revRows, fun v _ => v = .agg #[.int .i64 (a 0), .int .i64 (a 1), .int .i64 (a 2), .int .i64 (a 3), .int .i64 (a 4), .int .i64 (a 5), .int .i64 (a 6), .int .i64 (a 7)], fun v _ => v = .agg #[.int .i64 (d 0), .int .i64 (d 1), .int .i64 (d 2), .int .i64 (d 3), .int .i64 (d 4), .int .i64 (d 5), .int .i64 (d 6), .int .i64 (d 7)], fun v _ => v = .int .i64 (lastTo a d 8), fun v _ => v = .int .i64 (lastTo a d 8), fun v _ => v = .bool true, fun v _ => v = .bool true, fun v _ => v = .bool true, fun v _ => v = .bool true, fun v _ => v = .bool true]
                    rfl (by kernel_rfl) (by kernel_rfl) ?stab ?steps ?fin
                  case stab => exact .cons (fun _ _ _ he h => h.ext he) (.cons (Stab.eq _) (.cons (Stab.eq _) (.cons (Stab.eq _) (.cons (Stab.eq _) (.cons (Stab.eq _) (.cons (Stab.eq _) (.cons (Stab.eq _) (.cons (Stab.eq _) (.cons (fun _ _ _ he h => h.ext he) (.cons (Stab.eq _) (.cons (Stab.eq _) (.cons (Stab.eq _) (.cons (Stab.eq _) (.cons (Stab.eq _) (.cons (Stab.eq _) (.cons (Stab.eq _) (.cons (fun _ _ _ he h => h.ext he) (.cons (Stab.eq _) (.cons (Stab.eq _) (.cons (Stab.eq _) (.cons (Stab.eq _) (.cons (Stab.eq _) (.cons (Stab.eq _) (.cons (Stab.eq _) (.cons (Stab.eq _) (.cons (Stab.eq _) .nil))))))))))))))))))))))))))
                  case steps =>
                    refine .cons ?s0 (.cons ?s1 (.cons ?s2 (.cons ?s3 (.cons ?s4 (.cons ?s5 (.cons ?s6 (.cons ?s7 (.cons ?s8 (.cons ?s9 (.cons ?s10 (.cons ?s11 (.cons ?s12 (.cons ?s13 (.cons ?s14 (.cons ?s15 (.cons ?s16 (.cons ?s17 (.cons ?s18 (.cons ?s19 (.cons ?s20 (.cons ?s21 (.cons ?s22 (.cons ?s23 (.cons ?s24 (.cons ?s25 (.cons ?s26 .nil))))))))))))))))))))))))))
                    case s0 =>
                      intro w' ev hE hk ha hc hf
                      refine opStep_call (by simp [execOp, resolve, invoke, hf, go_sem]) (Lex_any _) ?_
                      rintro e w1 ⟨A, c, rfl, hO, hE1⟩
                      exact ⟨_, rfl, hE1, hO.rows⟩
                    case s1 =>
                      intro w' ev hE hk ha hc hf
                      have e6 : ev (.tmp 6) = .pointer (some ⟨B6, 0, none⟩) := ha 6 (by decide)
                      have c0 : w'.cell? ⟨B6, 0, none⟩ = some (.int .i64 (a 0)) := hE.cellv (hb6.out.cell 0)
                      have c1 : w'.cell? ⟨B6, 1, none⟩ = some (.int .i64 (a 1)) := hE.cellv (hb6.out.cell 1)
                      have c2 : w'.cell? ⟨B6, 2, none⟩ = some (.int .i64 (a 2)) := hE.cellv (hb6.out.cell 2)
                      have c3 : w'.cell? ⟨B6, 3, none⟩ = some (.int .i64 (a 3)) := hE.cellv (hb6.out.cell 3)
                      have c4 : w'.cell? ⟨B6, 4, none⟩ = some (.int .i64 (a 4)) := hE.cellv (hb6.out.cell 4)
                      have c5 : w'.cell? ⟨B6, 5, none⟩ = some (.int .i64 (a 5)) := hE.cellv (hb6.out.cell 5)
                      have c6 : w'.cell? ⟨B6, 6, none⟩ = some (.int .i64 (a 6)) := hE.cellv (hb6.out.cell 6)
                      have c7 : w'.cell? ⟨B6, 7, none⟩ = some (.int .i64 (a 7)) := hE.cellv (hb6.out.cell 7)
                      exact opStep_val (by simp [execOp, e6, c0, c1, c2, c3, c4, c5, c6, c7, go_sem]) rfl
                    case s2 =>
                      intro w' ev hE hk ha hc hf
                      have e7 : ev (.tmp 7) = .pointer (some ⟨B7, 0, none⟩) := ha 7 (by decide)
                      have c0 : w'.cell? ⟨B7, 0, none⟩ = some (.int .i64 (d 0)) := hE.cellv (hb7.out.cell 0)
                      have c1 : w'.cell? ⟨B7, 1, none⟩ = some (.int .i64 (d 1)) := hE.cellv (hb7.out.cell 1)
                      have c2 : w'.cell? ⟨B7, 2, none⟩ = some (.int .i64 (d 2)) := hE.cellv (hb7.out.cell 2)
                      have c3 : w'.cell? ⟨B7, 3, none⟩ = some (.int .i64 (d 3)) := hE.cellv (hb7.out.cell 3)
                      have c4 : w'.cell? ⟨B7, 4, none⟩ = some (.int .i64 (d 4)) := hE.cellv (hb7.out.cell 4)
                      have c5 : w'.cell? ⟨B7, 5, none⟩ = some (.int .i64 (d 5)) := hE.cellv (hb7.out.cell 5)
                      have c6 : w'.cell? ⟨B7, 6, none⟩ = some (.int .i64 (d 6)) := hE.cellv (hb7.out.cell 6)
                      have c7 : w'.cell? ⟨B7, 7, none⟩ = some (.int .i64 (d 7)) := hE.cellv (hb7.out.cell 7)
                      exact opStep_val (by simp [execOp, e7, c0, c1, c2, c3, c4, c5, c6, c7, go_sem]) rfl
                    case s3 =>
                      intro w' ev hE hk ha hc hf
                      have f50 := hk.1 _ rfl
                      have e51 : ev (.tmp 51) = .agg #[.int .i64 (a 0), .int .i64 (a 1), .int .i64 (a 2), .int .i64 (a 3), .int .i64 (a 4), .int .i64 (a 5), .int .i64 (a 6), .int .i64 (a 7)] := hk.2.1 _ rfl
                      have e52 : ev (.tmp 52) = .agg #[.int .i64 (d 0), .int .i64 (d 1), .int .i64 (d 2), .int .i64 (d 3), .int .i64 (d 4), .int .i64 (d 5), .int .i64 (d 6), .int .i64 (d 7)] := hk.2.2.1 _ rfl
                      refine opStep_call (by simp [execOp, resolve, invoke, hf, e51, e52, go_sem]) (oCmp_any _ [] a d _ f50 hin0.out ha6.out hd6.out) ?_
                      rintro e w1 ⟨rfl, hE1⟩
                      exact ⟨_, rfl, hE1, by rw [oCmp_lex]⟩
                    case s4 =>
                      intro w' ev hE hk ha hc hf
                      have e6 : ev (.tmp 6) = .pointer (some ⟨B6, 0, none⟩) := ha 6 (by decide)
                      have c0 : w'.cell? ⟨B6, 0, none⟩ = some (.int .i64 (a 0)) := hE.cellv (hb6.out.cell 0)
                      have c1 : w'.cell? ⟨B6, 1, none⟩ = some (.int .i64 (a 1)) := hE.cellv (hb6.out.cell 1)
                      have c2 : w'.cell? ⟨B6, 2, none⟩ = some (.int .i64 (a 2)) := hE.cellv (hb6.out.cell 2)
                      have c3 : w'.cell? ⟨B6, 3, none⟩ = some (.int .i64 (a 3)) := hE.cellv (hb6.out.cell 3)
                      have c4 : w'.cell? ⟨B6, 4, none⟩ = some (.int .i64 (a 4)) := hE.cellv (hb6.out.cell 4)
                      have c5 : w'.cell? ⟨B6, 5, none⟩ = some (.int .i64 (a 5)) := hE.cellv (hb6.out.cell 5)
                      have c6 : w'.cell? ⟨B6, 6, none⟩ = some (.int .i64 (a 6)) := hE.cellv (hb6.out.cell 6)
                      have c7 : w'.cell? ⟨B6, 7, none⟩ = some (.int .i64 (a 7)) := hE.cellv (hb6.out.cell 7)
                      exact opStep_val (by simp [execOp, e6, c0, c1, c2, c3, c4, c5, c6, c7, go_sem]) rfl
                    case s5 =>
                      intro w' ev hE hk ha hc hf
                      have e7 : ev (.tmp 7) = .pointer (some ⟨B7, 0, none⟩) := ha 7 (by decide)
                      have c0 : w'.cell? ⟨B7, 0, none⟩ = some (.int .i64 (d 0)) := hE.cellv (hb7.out.cell 0)
                      have c1 : w'.cell? ⟨B7, 1, none⟩ = some (.int .i64 (d 1)) := hE.cellv (hb7.out.cell 1)
                      have c2 : w'.cell? ⟨B7, 2, none⟩ = some (.int .i64 (d 2)) := hE.cellv (hb7.out.cell 2)
                      have c3 : w'.cell? ⟨B7, 3, none⟩ = some (.int .i64 (d 3)) := hE.cellv (hb7.out.cell 3)
                      have c4 : w'.cell? ⟨B7, 4, none⟩ = some (.int .i64 (d 4)) := hE.cellv (hb7.out.cell 4)
                      have c5 : w'.cell? ⟨B7, 5, none⟩ = some (.int .i64 (d 5)) := hE.cellv (hb7.out.cell 5)
                      have c6 : w'.cell? ⟨B7, 6, none⟩ = some (.int .i64 (d 6)) := hE.cellv (hb7.out.cell 6)
                      have c7 : w'.cell? ⟨B7, 7, none⟩ = some (.int .i64 (d 7)) := hE.cellv (hb7.out.cell 7)
                      exact opStep_val (by simp [execOp, e7, c0, c1, c2, c3, c4, c5, c6, c7, go_sem]) rfl
                    case s6 =>
                      intro w' ev hE hk ha hc hf
                      have e54 : ev (.tmp 54) = .agg #[.int .i64 (a 0), .int .i64 (a 1), .int .i64 (a 2), .int .i64 (a 3), .int .i64 (a 4), .int .i64 (a 5), .int .i64 (a 6), .int .i64 (a 7)] := hk.1 _ rfl
                      have e55 : ev (.tmp 55) = .agg #[.int .i64 (d 0), .int .i64 (d 1), .int .i64 (d 2), .int .i64 (d 3), .int .i64 (d 4), .int .i64 (d 5), .int .i64 (d 6), .int .i64 (d 7)] := hk.2.1 _ rfl
                      refine opStep_call (by simp [execOp, resolve, invoke, hf, e54, e55, go_sem]) (mCmp_any a d _) ?_
                      rintro e w1 ⟨rfl, hE1⟩
                      exact ⟨_, rfl, hE1, rfl⟩
                    case s7 =>
                      intro w' ev hE hk ha hc hf
                      have e53 : ev (.tmp 53) = .int .i64 (lex8 a d) := hk.1 _ rfl
                      have e56 : ev (.tmp 56) = .int .i64 (lex8 a d) := hk.2.1 _ rfl
                      exact opStep_val (by simp [execOp, e53, e56, hc, go_sem]) rfl
                    case s8 =>
                      intro w' ev hE hk ha hc hf
                      have e57 : ev (.tmp 57) = .bool true := hk.1 _ rfl
                      exact opStep_val (by simp [execOp, e57, go_sem]) rfl
                    case s9 =>
                      intro w' ev hE hk ha hc hf
                      intro gv hg
                      have hgv := hg _ rfl
                      refine ⟨fun hgt => ?_, fun hgf => ?_⟩
                      · skip
                        refine opStep_call (by simp [execOp, resolve, invoke, hf, go_sem]) (Graded_any _) ?_
                        rintro e w1 ⟨A, c, rfl, hO, hE1⟩
                        exact ⟨_, rfl, hE1, hO.rows⟩
                      · exact absurd hgv hgf
                    case s10 =>
                      intro w' ev hE hk ha hc hf
                      intro gv hg
                      have hgv := hg _ rfl
                      refine ⟨fun hgt => ?_, fun hgf => ?_⟩
                      · skip
                        have e6 : ev (.tmp 6) = .pointer (some ⟨B6, 0, none⟩) := ha 6 (by decide)
                        have c0 : w'.cell? ⟨B6, 0, none⟩ = some (.int .i64 (a 0)) := hE.cellv (hb6.out.cell 0)
                        have c1 : w'.cell? ⟨B6, 1, none⟩ = some (.int .i64 (a 1)) := hE.cellv (hb6.out.cell 1)
                        have c2 : w'.cell? ⟨B6, 2, none⟩ = some (.int .i64 (a 2)) := hE.cellv (hb6.out.cell 2)
                        have c3 : w'.cell? ⟨B6, 3, none⟩ = some (.int .i64 (a 3)) := hE.cellv (hb6.out.cell 3)
                        have c4 : w'.cell? ⟨B6, 4, none⟩ = some (.int .i64 (a 4)) := hE.cellv (hb6.out.cell 4)
                        have c5 : w'.cell? ⟨B6, 5, none⟩ = some (.int .i64 (a 5)) := hE.cellv (hb6.out.cell 5)
                        have c6 : w'.cell? ⟨B6, 6, none⟩ = some (.int .i64 (a 6)) := hE.cellv (hb6.out.cell 6)
                        have c7 : w'.cell? ⟨B6, 7, none⟩ = some (.int .i64 (a 7)) := hE.cellv (hb6.out.cell 7)
                        exact opStep_val (by simp [execOp, e6, c0, c1, c2, c3, c4, c5, c6, c7, go_sem]) rfl
                      · exact absurd hgv hgf
                    case s11 =>
                      intro w' ev hE hk ha hc hf
                      intro gv hg
                      have hgv := hg _ rfl
                      refine ⟨fun hgt => ?_, fun hgf => ?_⟩
                      · skip
                        have e7 : ev (.tmp 7) = .pointer (some ⟨B7, 0, none⟩) := ha 7 (by decide)
                        have c0 : w'.cell? ⟨B7, 0, none⟩ = some (.int .i64 (d 0)) := hE.cellv (hb7.out.cell 0)
                        have c1 : w'.cell? ⟨B7, 1, none⟩ = some (.int .i64 (d 1)) := hE.cellv (hb7.out.cell 1)
                        have c2 : w'.cell? ⟨B7, 2, none⟩ = some (.int .i64 (d 2)) := hE.cellv (hb7.out.cell 2)
                        have c3 : w'.cell? ⟨B7, 3, none⟩ = some (.int .i64 (d 3)) := hE.cellv (hb7.out.cell 3)
                        have c4 : w'.cell? ⟨B7, 4, none⟩ = some (.int .i64 (d 4)) := hE.cellv (hb7.out.cell 4)
                        have c5 : w'.cell? ⟨B7, 5, none⟩ = some (.int .i64 (d 5)) := hE.cellv (hb7.out.cell 5)
                        have c6 : w'.cell? ⟨B7, 6, none⟩ = some (.int .i64 (d 6)) := hE.cellv (hb7.out.cell 6)
                        have c7 : w'.cell? ⟨B7, 7, none⟩ = some (.int .i64 (d 7)) := hE.cellv (hb7.out.cell 7)
                        exact opStep_val (by simp [execOp, e7, c0, c1, c2, c3, c4, c5, c6, c7, go_sem]) rfl
                      · exact absurd hgv hgf
                    case s12 =>
                      intro w' ev hE hk ha hc hf
                      intro gv hg
                      have hgv := hg _ rfl
                      refine ⟨fun hgt => ?_, fun hgf => ?_⟩
                      · skip
                        have f59 := hk.1 _ rfl
                        have e60 : ev (.tmp 60) = .agg #[.int .i64 (a 0), .int .i64 (a 1), .int .i64 (a 2), .int .i64 (a 3), .int .i64 (a 4), .int .i64 (a 5), .int .i64 (a 6), .int .i64 (a 7)] := hk.2.1 _ rfl
                        have e61 : ev (.tmp 61) = .agg #[.int .i64 (d 0), .int .i64 (d 1), .int .i64 (d 2), .int .i64 (d 3), .int .i64 (d 4), .int .i64 (d 5), .int .i64 (d 6), .int .i64 (d 7)] := hk.2.2.1 _ rfl
                        refine opStep_call (by simp [execOp, resolve, invoke, hf, e60, e61, go_sem]) (oCmp_any _ [onesOf 255] a d _ f59 hin1.out ha6.out hd6.out) ?_
                        rintro e w1 ⟨rfl, hE1⟩
                        exact ⟨_, rfl, hE1, by rw [hgr.out]⟩
                      · exact absurd hgv hgf
                    case s13 =>
                      intro w' ev hE hk ha hc hf
                      intro gv hg
                      have hgv := hg _ rfl
                      refine ⟨fun hgt => ?_, fun hgf => ?_⟩
                      · skip
                        have e8 : ev (.tmp 8) = .int .i64 (lex8 a d) := ha 8 (by decide)
                        exact opStep_val (by simp [execOp, e8, go_sem]) rfl
                      · exact absurd hgv hgf
                    case s14 =>
                      intro w' ev hE hk ha hc hf
                      intro gv hg
                      have hgv := hg _ rfl
                      refine ⟨fun hgt => ?_, fun hgf => ?_⟩
                      · skip
                        have e62 : ev (.tmp 62) = .int .i64 (lex8 a d) := hk.1 _ rfl
                        have e63 : ev (.tmp 63) = .int .i64 (lex8 a d) := hk.2.1 _ rfl
                        exact opStep_val (by simp [execOp, e62, e63, hc, go_sem]) rfl
                      · exact absurd hgv hgf
                    case s15 =>
                      intro w' ev hE hk ha hc hf
                      have e58 : ev (.tmp 58) = .bool true := hk.1 _ rfl
                      have e64 : ev (.tmp 64) = .bool true := hk.2.1 _ rfl
                      exact opStep_val (by simp [execOp, e58, e64, hc, go_sem]) rfl
                    case s16 =>
                      intro w' ev hE hk ha hc hf
                      have e65 : ev (.tmp 65) = .bool true := hk.1 _ rfl
                      exact opStep_val (by simp [execOp, e65, go_sem]) rfl
                    case s17 =>
                      intro w' ev hE hk ha hc hf
                      intro gv hg
                      have hgv := hg _ rfl
                      refine ⟨fun hgt => ?_, fun hgf => ?_⟩
                      · skip
                        refine opStep_call (by simp [execOp, resolve, invoke, hf, go_sem]) (Reverse_any _) ?_
                        rintro e w1 ⟨A, c, rfl, hO, hE1⟩
                        exact ⟨_, rfl, hE1, hO.rows⟩
                      · exact absurd hgv hgf
                    case s18 =>
                      intro w' ev hE hk ha hc hf
                      intro gv hg
                      have hgv := hg _ rfl
                      refine ⟨fun hgt => ?_, fun hgf => ?_⟩
                      · skip
                        have e6 : ev (.tmp 6) = .pointer (some ⟨B6, 0, none⟩) := ha 6 (by decide)
                        have c0 : w'.cell? ⟨B6, 0, none⟩ = some (.int .i64 (a 0)) := hE.cellv (hb6.out.cell 0)
                        have c1 : w'.cell? ⟨B6, 1, none⟩ = some (.int .i64 (a 1)) := hE.cellv (hb6.out.cell 1)
                        have c2 : w'.cell? ⟨B6, 2, none⟩ = some (.int .i64 (a 2)) := hE.cellv (hb6.out.cell 2)
                        have c3 : w'.cell? ⟨B6, 3, none⟩ = some (.int .i64 (a 3)) := hE.cellv (hb6.out.cell 3)
                        have c4 : w'.cell? ⟨B6, 4, none⟩ = some (.int .i64 (a 4)) := hE.cellv (hb6.out.cell 4)
                        have c5 : w'.cell? ⟨B6, 5, none⟩ = some (.int .i64 (a 5)) := hE.cellv (hb6.out.cell 5)
                        have c6 : w'.cell? ⟨B6, 6, none⟩ = some (.int .i64 (a 6)) := hE.cellv (hb6.out.cell 6)
                        have c7 : w'.cell? ⟨B6, 7, none⟩ = some (.int .i64 (a 7)) := hE.cellv (hb6.out.cell 7)
                        exact opStep_val (by simp [execOp, e6, c0, c1, c2, c3, c4, c5, c6, c7, go_sem]) rfl
                      · exact absurd hgv hgf
                    case s19 =>
                      intro w' ev hE hk ha hc hf
                      intro gv hg
                      have hgv := hg _ rfl
                      refine ⟨fun hgt => ?_, fun hgf => ?_⟩
                      · skip
                        have e7 : ev (.tmp 7) = .pointer (some ⟨B7, 0, none⟩) := ha 7 (by decide)
                        have c0 : w'.cell? ⟨B7, 0, none⟩ = some (.int .i64 (d 0)) := hE.cellv (hb7.out.cell 0)
                        have c1 : w'.cell? ⟨B7, 1, none⟩ = some (.int .i64 (d 1)) := hE.cellv (hb7.out.cell 1)
                        have c2 : w'.cell? ⟨B7, 2, none⟩ = some (.int .i64 (d 2)) := hE.cellv (hb7.out.cell 2)
                        have c3 : w'.cell? ⟨B7, 3, none⟩ = some (.int .i64 (d 3)) := hE.cellv (hb7.out.cell 3)
                        have c4 : w'.cell? ⟨B7, 4, none⟩ = some (.int .i64 (d 4)) := hE.cellv (hb7.out.cell 4)
                        have c5 : w'.cell? ⟨B7, 5, none⟩ = some (.int .i64 (d 5)) := hE.cellv (hb7.out.cell 5)
                        have c6 : w'.cell? ⟨B7, 6, none⟩ = some (.int .i64 (d 6)) := hE.cellv (hb7.out.cell 6)
                        have c7 : w'.cell? ⟨B7, 7, none⟩ = some (.int .i64 (d 7)) := hE.cellv (hb7.out.cell 7)
                        exact opStep_val (by simp [execOp, e7, c0, c1, c2, c3, c4, c5, c6, c7, go_sem]) rfl
                      · exact absurd hgv hgf
                    case s20 =>
                      intro w' ev hE hk ha hc hf
                      intro gv hg
                      have hgv := hg _ rfl
                      refine ⟨fun hgt => ?_, fun hgf => ?_⟩
                      · skip
                        have f67 := hk.1 _ rfl
                        have e68 : ev (.tmp 68) = .agg #[.int .i64 (a 0), .int .i64 (a 1), .int .i64 (a 2), .int .i64 (a 3), .int .i64 (a 4), .int .i64 (a 5), .int .i64 (a 6), .int .i64 (a 7)] := hk.2.1 _ rfl
                        have e69 : ev (.tmp 69) = .agg #[.int .i64 (d 0), .int .i64 (d 1), .int .i64 (d 2), .int .i64 (d 3), .int .i64 (d 4), .int .i64 (d 5), .int .i64 (d 6), .int .i64 (d 7)] := hk.2.2.1 _ rfl
                        refine opStep_call (by simp [execOp, resolve, invoke, hf, e68, e69, go_sem]) (oCmp_any _ revRows a d _ f67 hin2.out ha6.out hd6.out) ?_
                        rintro e w1 ⟨rfl, hE1⟩
                        exact ⟨_, rfl, hE1, by rw [hrv.out]⟩
                      · exact absurd hgv hgf
                    case s21 =>
                      intro w' ev hE hk ha hc hf
                      intro gv hg
                      have hgv := hg _ rfl
                      refine ⟨fun hgt => ?_, fun hgf => ?_⟩
                      · skip
                        have e9 : ev (.tmp 9) = .int .i64 (lastTo a d 8) := ha 9 (by decide)
                        exact opStep_val (by simp [execOp, e9, go_sem]) rfl
                      · exact absurd hgv hgf
                    case s22 =>
                      intro w' ev hE hk ha hc hf
                      intro gv hg
                      have hgv := hg _ rfl
                      refine ⟨fun hgt => ?_, fun hgf => ?_⟩
                      · skip
                        have e70 : ev (.tmp 70) = .int .i64 (lastTo a d 8) := hk.1 _ rfl
                        have e71 : ev (.tmp 71) = .int .i64 (lastTo a d 8) := hk.2.1 _ rfl
                        exact opStep_val (by simp [execOp, e70, e71, hc, go_sem]) rfl
                      · exact absurd hgv hgf
                    case s23 =>
                      intro w' ev hE hk ha hc hf
                      have e66 : ev (.tmp 66) = .bool true := hk.1 _ rfl
                      have e72 : ev (.tmp 72) = .bool true := hk.2.1 _ rfl
                      exact opStep_val (by simp [execOp, e66, e72, hc, go_sem]) rfl
                    case s24 =>
                      intro w' ev hE hk ha hc hf
                      have e73 : ev (.tmp 73) = .bool true := hk.1 _ rfl
                      exact opStep_val (by simp [execOp, e73, go_sem]) rfl
                    case s25 =>
                      intro w' ev hE hk ha hc hf
                      intro gv hg
                      have hgv := hg _ rfl
                      refine ⟨fun hgt => ?_, fun hgf => ?_⟩
                      · skip
                        have e5 : ev (.tmp 5) = .bool true := ha 5 (by decide)
                        exact opStep_val (by simp [execOp, e5, go_sem]) rfl
                      · exact absurd hgv hgf
                    case s26 =>
                      intro w' ev hE hk ha hc hf
                      have e74 : ev (.tmp 74) = .bool true := hk.1 _ rfl
                      have e75 : ev (.tmp 75) = .bool true := hk.2.1 _ rfl
                      exact opStep_val (by simp [execOp, e74, e75, hc, go_sem]) rfl
                  case fin =>
                    intro g w' hE hF
                    have e26 := hF 26 _ rfl
                    simp only [List.length_cons, List.length_nil, Nat.reduceAdd, List.drop_succ_cons, List.drop_zero, List.take_succ_cons, List.take_zero, putG, Act.put, List.setIfInBounds_toArray, List.set_cons_succ, List.set_cons_zero, e26]
                    go_wp2
                    go_ret
                    exact ⟨rfl, hEw.out.trans ((Ext.refl _).drew.trans hE)⟩
            · have hgr : Hid (oCmp [onesOf 255] a d = 1) := hide (by rw [ocg.out, if_neg (by omega), if_pos hlt])
              have hrv : Hid (oCmp revRows a d = 1) := hide (by rw [ocr.out, if_neg (by omega), if_pos hlt])
              have h1 : decide (sumTo a 8 < sumTo d 8) = false := by simp; omega
              have h2 : decide (sumTo d 8 < sumTo a 8) = true := by simpa using hlt
              have h3 : ¬ sumTo a 8 < sumTo d 8 := by omega
              have h4 : sumTo d 8 < sumTo a 8 := hlt
              replace h1 := hide h1
              replace h2 := hide h2
              clear ocg ocr hlt
              go_upto_region 10 with (fail)
              refine wp_region_v (by kernel_rfl) [[], [(40, 0)], [], [(42, 2)], [(41, 1), (43, 3)]] [[], [0], [], [0, 1, 2], [0, 1, 2, 3]]
                [fun v _ => v = .agg #[.int .i64 (a 0), .int .i64 (a 1), .int .i64 (a 2), .int .i64 (a 3), .int .i64 (a 4), .int .i64 (a 5), .int .i64 (a 6), .int .i64 (a 7)], fun v _ => v = .int .i64 (sumTo a 8), fun v _ => v = .agg #[.int .i64 (d 0), .int .i64 (d 1), .int .i64 (d 2), .int .i64 (d 3), .int .i64 (d 4), .int .i64 (d 5), .int .i64 (d 6), .int .i64 (d 7)], fun v _ => v = .int .i64 (sumTo d 8), fun v _ => v = .bool false]
                rfl (by kernel_rfl) (by kernel_rfl) ?stab ?steps ?fin
              case stab => exact .cons (Stab.eq _) (.cons (Stab.eq _) (.cons (Stab.eq _) (.cons (Stab.eq _) (.cons (Stab.eq _) .nil))))
              case steps =>
                refine .cons ?s0 (.cons ?s1 (.cons ?s2 (.cons ?s3 (.cons ?s4 .nil))))
                case s0 =>
                  intro w' ev hE hk ha hc hf
                  have e6 : ev (.tmp 6) = .pointer (some ⟨B6, 0, none⟩) := ha 6 (by decide)
                  have c0 : w'.cell? ⟨B6, 0, none⟩ = some (.int .i64 (a 0)) := hE.cellv (hb6.out.cell 0)
                  have c1 : w'.cell? ⟨B6, 1, none⟩ = some (.int .i64 (a 1)) := hE.cellv (hb6.out.cell 1)
                  have c2 : w'.cell? ⟨B6, 2, none⟩ = some (.int .i64 (a 2)) := hE.cellv (hb6.out.cell 2)
                  have c3 : w'.cell? ⟨B6, 3, none⟩ = some (.int .i64 (a 3)) := hE.cellv (hb6.out.cell 3)
                  have c4 : w'.cell? ⟨B6, 4, none⟩ = some (.int .i64 (a 4)) := hE.cellv (hb6.out.cell 4)
                  have c5 : w'.cell? ⟨B6, 5, none⟩ = some (.int .i64 (a 5)) := hE.cellv (hb6.out.cell 5)
                  have c6 : w'.cell? ⟨B6, 6, none⟩ = some (.int .i64 (a 6)) := hE.cellv (hb6.out.cell 6)
                  have c7 : w'.cell? ⟨B6, 7, none⟩ = some (.int .i64 (a 7)) := hE.cellv (hb6.out.cell 7)
                  exact opStep_val (by simp [execOp, e6, c0, c1, c2, c3, c4, c5, c6, c7, go_sem]) rfl
                case s1 =>
                  intro w' ev hE hk ha hc hf
                  have e40 : ev (.tmp 40) = .agg #[.int .i64 (a 0), .int .i64 (a 1), .int .i64 (a 2), .int .i64 (a 3), .int .i64 (a 4), .int .i64 (a 5), .int .i64 (a 6), .int .i64 (a 7)] := hk.1 _ rfl
                  refine opStep_call (by simp [execOp, resolve, invoke, hf, e40, go_sem]) (Degree_any a _ ha6.out) ?_
                  rintro e w1 ⟨rfl, hE1⟩
                  exact ⟨_, rfl, hE1, rfl⟩
                case s2 =>
                  intro w' ev hE hk ha hc hf
                  have e7 : ev (.tmp 7) = .pointer (some ⟨B7, 0, none⟩) := ha 7 (by decide)
                  have c0 : w'.cell? ⟨B7, 0, none⟩ = some (.int .i64 (d 0)) := hE.cellv (hb7.out.cell 0)
                  have c1 : w'.cell? ⟨B7, 1, none⟩ = some (.int .i64 (d 1)) := hE.cellv (hb7.out.cell 1)
                  have c2 : w'.cell? ⟨B7, 2, none⟩ = some (.int .i64 (d 2)) := hE.cellv (hb7.out.cell 2)
                  have c3 : w'.cell? ⟨B7, 3, none⟩ = some (.int .i64 (d 3)) := hE.cellv (hb7.out.cell 3)
                  have c4 : w'.cell? ⟨B7, 4, none⟩ = some (.int .i64 (d 4)) := hE.cellv (hb7.out.cell 4)
                  have c5 : w'.cell? ⟨B7, 5, none⟩ = some (.int .i64 (d 5)) := hE.cellv (hb7.out.cell 5)
                  have c6 : w'.cell? ⟨B7, 6, none⟩ = some (.int .i64 (d 6)) := hE.cellv (hb7.out.cell 6)
                  have c7 : w'.cell? ⟨B7, 7, none⟩ = some (.int .i64 (d 7)) := hE.cellv (hb7.out.cell 7)
                  exact opStep_val (by simp [execOp, e7, c0, c1, c2, c3, c4, c5, c6, c7, go_sem]) rfl
                case s3 =>
                  intro w' ev hE hk ha hc hf
                  have e42 : ev (.tmp 42) = .agg #[.int .i64 (d 0), .int .i64 (d 1), .int .i64 (d 2), .int .i64 (d 3), .int .i64 (d 4), .int .i64 (d 5), .int .i64 (d 6), .int .i64 (d 7)] := hk.1 _ rfl
                  refine opStep_call (by simp [execOp, resolve, invoke, hf, e42, go_sem]) (Degree_any d _ hd6.out) ?_
                  rintro e w1 ⟨rfl, hE1⟩
                  exact ⟨_, rfl, hE1, rfl⟩
                case s4 =>
                  intro w' ev hE hk ha hc hf
                  have e41 : ev (.tmp 41) = .int .i64 (sumTo a 8) := hk.1 _ rfl
                  have e43 : ev (.tmp 43) = .int .i64 (sumTo d 8) := hk.2.1 _ rfl
                  exact opStep_val (by simp [execOp, e41, e43, h1.out, h3, go_sem]) rfl
              case fin =>
                intro g w' hE hF
                have e4 := hF 4 _ rfl
                simp only [List.length_cons, List.length_nil, Nat.reduceAdd, List.drop_succ_cons, List.drop_zero, List.take_succ_cons, List.take_zero, putG, Act.put, List.setIfInBounds_toArray, List.set_cons_succ, List.set_cons_zero, e4]
                replace hE := hide ((Ext.refl _).drew.trans hE)
                replace hb6 := hide (hb6.out.ext hE.out)
                replace hb7 := hide (hb7.out.ext hE.out)
                replace hEw := hide (hEw.out.trans hE.out)
                clear hF hE
                clear e4
                go_upto_region 12 with (fail)
                refine wp_region_v (by kernel_rfl) [[], [(45, 0)], [], [(47, 2)], [(46, 1), (48, 3)]] [[], [0], [], [0, 1, 2], [0, 1, 2, 3]]
                  [fun v _ => v = .agg #[.int .i64 (a 0), .int .i64 (a 1), .int .i64 (a 2), .int .i64 (a 3), .int .i64 (a 4), .int .i64 (a 5), .int .i64 (a 6), .int .i64 (a 7)], fun v _ => v = .int .i64 (sumTo a 8), fun v _ => v = .agg #[.int .i64 (d 0), .int .i64 (d 1), .int .i64 (d 2), .int .i64 (d 3), .int .i64 (d 4), .int .i64 (d 5), .int .i64 (d 6), .int .i64 (d 7)], fun v _ => v = .int .i64 (sumTo d 8), fun v _ => v = .bool true]
                  rfl (by kernel_rfl) (by kernel_rfl) ?stab ?steps ?fin
                case stab => exact .cons (Stab.eq _) (.cons (Stab.eq _) (.cons (Stab.eq _) (.cons (Stab.eq _) (.cons (Stab.eq _) .nil))))
                case steps =>
                  refine .cons ?s0 (.cons ?s1 (.cons ?s2 (.cons ?s3 (.cons ?s4 .nil))))
                  case s0 =>
                    intro w' ev hE hk ha hc hf
                    have e6 : ev (.tmp 6) = .pointer (some ⟨B6, 0, none⟩) := ha 6 (by decide)
                    have c0 : w'.cell? ⟨B6, 0, none⟩ = some (.int .i64 (a 0)) := hE.cellv (hb6.out.cell 0)
                    have c1 : w'.cell? ⟨B6, 1, none⟩ = some (.int .i64 (a 1)) := hE.cellv (hb6.out.cell 1)
                    have c2 : w'.cell? ⟨B6, 2, none⟩ = some (.int .i64 (a 2)) := hE.cellv (hb6.out.cell 2)
                    have c3 : w'.cell? ⟨B6, 3, none⟩ = some (.int .i64 (a 3)) := hE.cellv (hb6.out.cell 3)
                    have c4 : w'.cell? ⟨B6, 4, none⟩ = some (.int .i64 (a 4)) := hE.cellv (hb6.out.cell 4)
                    have c5 : w'.cell? ⟨B6, 5, none⟩ = some (.int .i64 (a 5)) := hE.cellv (hb6.out.cell 5)
                    have c6 : w'.cell? ⟨B6, 6, none⟩ = some (.int .i64 (a 6)) := hE.cellv (hb6.out.cell 6)
                    have c7 : w'.cell? ⟨B6, 7, none⟩ = some (.int .i64 (a 7)) := hE.cellv (hb6.out.cell 7)
                    exact opStep_val (by simp [execOp, e6, c0, c1, c2, c3, c4, c5, c6, c7, go_sem]) rfl
                  case s1 =>
                    intro w' ev hE hk ha hc hf
                    have e45 : ev (.tmp 45) = .agg #[.int .i64 (a 0), .int .i64 (a 1), .int .i64 (a 2), .int .i64 (a 3), .int .i64 (a 4), .int .i64 (a 5), .int .i64 (a 6), .int .i64 (a 7)] := hk.1 _ rfl
                    refine opStep_call (by simp [execOp, resolve, invoke, hf, e45, go_sem]) (Degree_any a _ ha6.out) ?_
                    rintro e w1 ⟨rfl, hE1⟩
                    exact ⟨_, rfl, hE1, rfl⟩
                  case s2 =>
                    intro w' ev hE hk ha hc hf
                    have e7 : ev (.tmp 7) = .pointer (some ⟨B7, 0, none⟩) := ha 7 (by decide)
                    have c0 : w'.cell? ⟨B7, 0, none⟩ = some (.int .i64 (d 0)) := hE.cellv (hb7.out.cell 0)
                    have c1 : w'.cell? ⟨B7, 1, none⟩ = some (.int .i64 (d 1)) := hE.cellv (hb7.out.cell 1)
                    have c2 : w'.cell? ⟨B7, 2, none⟩ = some (.int .i64 (d 2)) := hE.cellv (hb7.out.cell 2)
                    have c3 : w'.cell? ⟨B7, 3, none⟩ = some (.int .i64 (d 3)) := hE.cellv (hb7.out.cell 3)
                    have c4 : w'.cell? ⟨B7, 4, none⟩ = some (.int .i64 (d 4)) := hE.cellv (hb7.out.cell 4)
                    have c5 : w'.cell? ⟨B7, 5, none⟩ = some (.int .i64 (d 5)) := hE.cellv (hb7.out.cell 5)
                    have c6 : w'.cell? ⟨B7, 6, none⟩ = some (.int .i64 (d 6)) := hE.cellv (hb7.out.cell 6)
                    have c7 : w'.cell? ⟨B7, 7, none⟩ = some (.int .i64 (d 7)) := hE.cellv (hb7.out.cell 7)
                    exact opStep_val (by simp [execOp, e7, c0, c1, c2, c3, c4, c5, c6, c7, go_sem]) rfl
                  case s3 =>
                    intro w' ev hE hk ha hc hf
                    have e47 : ev (.tmp 47) = .agg #[.int .i64 (d 0), .int .i64 (d 1), .int .i64 (d 2), .int .i64 (d 3), .int .i64 (d 4), .int .i64 (d 5), .int .i64 (d 6), .int .i64 (d 7)] := hk.1 _ rfl
                    refine opStep_call (by simp [execOp, resolve, invoke, hf, e47, go_sem]) (Degree_any d _ hd6.out) ?_
                    rintro e w1 ⟨rfl, hE1⟩
                    exact ⟨_, rfl, hE1, rfl⟩
                  case s4 =>
                    intro w' ev hE hk ha hc hf
                    have e46 : ev (.tmp 46) = .int .i64 (sumTo a 8) := hk.1 _ rfl
                    have e48 : ev (.tmp 48) = .int .i64 (sumTo d 8) := hk.2.1 _ rfl
                    exact opStep_val (by simp [execOp, e46, e48, h2.out, h4, go_sem]) rfl
                case fin =>
                  intro g w' hE hF
                  have e4 := hF 4 _ rfl
                  simp only [List.length_cons, List.length_nil, Nat.reduceAdd, List.drop_succ_cons, List.drop_zero, List.take_succ_cons, List.take_zero, putG, Act.put, List.setIfInBounds_toArray, List.set_cons_succ, List.set_cons_zero, e4]
                  replace hE := hide ((Ext.refl _).drew.trans hE)
                  replace hb6 := hide (hb6.out.ext hE.out)
                  replace hb7 := hide (hb7.out.ext hE.out)
                  replace hEw := hide (hEw.out.trans hE.out)
                  clear hF hE
                  clear e4
                  go_upto_region 14 with (fail)
                  refine wp_region_v (by kernel_rfl) [[], [], [], [(50, 0), (51, 1), (52, 2)], [], [], [(54, 4), (55, 5)], [(53, 3), (56, 6)], [(57, 7)], [], [], [], [(59, 9), (60, 10), (61, 11)], [], [(62, 12), (63, 13)], [(58, 8), (64, 14)], [(65, 15)], [], [], [], [(67, 17), (68, 18), (69, 19)], [], [(70, 20), (71, 21)], [(66, 16), (72, 22)], [(73, 23)], [], [(74, 24), (75, 25)]] [[], [], [], [0, 1, 2], [], [], [0, 1, 2, 3, 4, 5], [0, 1, 2, 3, 4, 5, 6], [0, 1, 2, 3, 4, 5, 6, 7], [0, 1, 2, 3, 4, 5, 6, 7, 8], [0, 1, 2, 3, 4, 5, 6, 7, 8], [0, 1, 2, 3, 4, 5, 6, 7, 8], [0, 1, 2, 3, 4, 5, 6, 7, 8, 9, 10, 11], [0, 1, 2, 3, 4, 5, 6, 7, 8], [0, 1, 2, 3, 4, 5, 6, 7, 8, 9, 10, 11, 12, 13], [0, 1, 2, 3, 4, 5, 6, 7, 8, 9, 10, 11, 12, 13, 14], [0, 1, 2, 3, 4, 5, 6, 7, 8, 9, 10, 11, 12, 13, 14, 15], [0, 1, 2, 3, 4, 5, 6, 7, 8, 9, 10, 11, 12, 13, 14, 15, 16], [0, 1, 2, 3, 4, 5, 6, 7, 8, 9, 10, 11, 12, 13, 14, 15, 16], [0, 1, 2, 3, 4, 5, 6, 7, 8, 9, 10, 11, 12, 13, 14, 15, 16], [0, 1, 2, 3, 4, 5, 6, 7, 8, 9, 10, 11, 12, 13, 14, 15, 16, 17, 18, 19], [0, 1, 2, 3, 4, 5, 6, 7, 8, 9, 10, 11, 12, 13, 14, 15, 16], [0, 1, 2, 3, 4, 5, 6, 7, 8, 9, 10, 11, 12, 13, 14, 15, 16, 17, 18, 19, 20, 21], [0, 1, 2, 3, 4, 5, 6, 7, 8, 9, 10, 11, 12, 13, 14, 15, 16, 17, 18, 19, 20, 21, 22], [0, 1, 2, 3, 4, 5, 6, 7, 8, 9, 10, 11, 12, 13, 14, 15, 16, 17, 18, 19, 20, 21, 22, 23], [0, 1, 2, 3, 4, 5, 6, 7, 8, 9, 10, 11, 12, 13, 14, 15, 16, 17, 18, 19, 20, 21, 22, 23, 24], [0, 1, 2, 3, 4, 5, 6, 7, 8, 9, 10, 11, 12, 13, 14, 15, 16, 17, 18, 19, 20, 21, 22, 23, 24, 25]]
                    [fun v w' => RowsAt .i64 34 w' v [], fun v _ => v = .agg #[.int .i64 (a 0), .int .i64 (a 1), .int .i64 (a 2), .int .i64 (a 3), .int .i64 (a 4), .int .i64 (a 5), .int .i64 (a 6), .int .i64 (a 7)], fun v _ => v = .agg #[.int .i64 (d 0), .int .i64 (d 1), .int .i64 (d 2), .int .i64 (d 3), .int .i64 (d 4), .int .i64 (d 5), .int .i64 (d 6), .int .i64 (d 7)], fun v _ => v = .int .i64 (lex8 a d), fun v _ => v = .agg #[.int .i64 (a 0), .int .i64 (a 1), .int .i64 (a 2), .int .i64 (a 3), .int .i64 (a 4), .int .i64 (a 5), .int .i64 (a 6), .int .i64 (a 7)], fun v _ => v = .agg #[.int .i64 (d 0), .int .i64 (d 1), .int .i64 (d 2), .int .i64 (d 3), .int .i64 (d 4), .int .i64 (d 5), .int .i64 (d 6), .int .i64 (d 7)], fun v _ => v = .int .i64 (lex8 a d), fun v _ => v = .bool true, fun v _ => v = .bool true, fun v w' => RowsAt .i64 34 w' v [onesOf 255], fun v _ => v = .agg #[.int .i64 (a 0), .int .i64 (a 1), .int .i64 (a 2), .int .i64 (a 3), .int .i64 (a 4), .int .i64 (a 5), .int .i64 (a 6), .int .i64 (a 7)], fun v _ => v = .agg #[.int .i64 (d 0), .int .i64 (d 1), .int .i64 (d 2), .int .i64 (d 3), .int .i64 (d 4), .int .i64 (d 5), .int .i64 (d 6), .int .i64 (d 7)], fun v _ => v = .int .i64 1, fun v _ => v = .int .i64 1, fun v _ => v = .bool true, fun v _ => v = .bool true, fun v _ => v = .bool true, fun v w' => RowsAt .i64 34 w' v revRows, fun v _ => v = .agg #[.int .i64 (a 0), .int .i64 (a 1), .int .i64 (a 2), .int .i64 (a 3), .int .i64 (a 4), .int .i64 (a 5), .int .i64 (a 6), .int .i64 (a 7)], fun v _ => v = .agg #[.int .i64 (d 0), .int .i64 (d 1), .int .i64 (d 2), .int .i64 (d 3), .int .i64 (d 4), .int .i64 (d 5), .int .i64 (d 6), .int .i64 (d 7)], fun v _ => v = .int .i64 1, fun v _ => v = .int .i64 1, fun v _ => v = .bool true, fun v _ => v = .bool true, fun v _ => v = .bool true, fun v _ => v = .bool true, fun v _ => v = .bool true]
                    rfl (by kernel_rfl) (by kernel_rfl) ?stab ?steps ?fin
                  case stab => exact .cons (fun _ _ _ he h => h.ext he) (.cons (Stab.eq _) (.cons (Stab.eq _) (.cons (Stab.eq _) (.cons (Stab.eq _) (.cons (Stab.eq _) (.cons (Stab.eq _) (.cons (Stab.eq _) (.cons (Stab.eq _) (.cons (fun _ _ _ he h => h.ext he) (.cons (Stab.eq _) (.cons (Stab.eq _) (.cons (Stab.eq _) (.cons (Stab.eq _) (.cons (Stab.eq _) (.cons (Stab.eq _) (.cons (Stab.eq _) (.cons (fun _ _ _ he h => h.ext he) (.cons (Stab.eq _) (.cons (Stab.eq _) (.cons (Stab.eq _) (.cons (Stab.eq _) (.cons (Stab.eq _) (.cons (Stab.eq _) (.cons (Stab.eq _) (.cons (Stab.eq _) (.cons (Stab.eq _) .nil))))))))))))))))))))))))))
                  case steps =>
                    refine .cons ?s0 (.cons ?s1 (.cons ?s2 (.cons ?s3 (.cons ?s4 (.cons ?s5 (.cons ?s6 (.cons ?s7 (.cons ?s8 (.cons ?s9 (.cons ?s10 (.cons ?s11 (.cons ?s12 (.cons ?s13 (.cons ?s14 (.cons ?s15 (.cons ?s16 (.cons ?s17 (.cons ?s18 (.cons ?s19 (.cons ?s20 (.cons ?s21 (.cons ?s22 (.cons ?s23 (.cons ?s24 (.cons ?s25 (.cons ?s26 .nil))))))))))))))))))))))))))
                    case s0 =>
                      intro w' ev hE hk ha hc hf
                      refine opStep_call (by simp [execOp, resolve, invoke, hf, go_sem]) (Lex_any _) ?_
                      rintro e w1 ⟨A, c, rfl, hO, hE1⟩
                      exact ⟨_, rfl, hE1, hO.rows⟩
                    case s1 =>
                      intro w' ev hE hk ha hc hf
                      have e6 : ev (.tmp 6) = .pointer (some ⟨B6, 0, none⟩) := ha 6 (by decide)
                      have c0 : w'.cell? ⟨B6, 0, none⟩ = some (.int .i64 (a 0)) := hE.cellv (hb6.out.cell 0)
                      have c1 : w'.cell? ⟨B6, 1, none⟩ = some (.int .i64 (a 1)) := hE.cellv (hb6.out.cell 1)
                      have c2 : w'.cell? ⟨B6, 2, none⟩ = some (.int .i64 (a 2)) := hE.cellv (hb6.out.cell 2)
                      have c3 : w'.cell? ⟨B6, 3, none⟩ = some (.int .i64 (a 3)) := hE.cellv (hb6.out.cell 3)
                      have c4 : w'.cell? ⟨B6, 4, none⟩ = some (.int .i64 (a 4)) := hE.cellv (hb6.out.cell 4)
                      have c5 : w'.cell? ⟨B6, 5, none⟩ = some (.int .i64 (a 5)) := hE.cellv (hb6.out.cell 5)
                      have c6 : w'.cell? ⟨B6, 6, none⟩ = some (.int .i64 (a 6)) := hE.cellv (hb6.out.cell 6)
                      have c7 : w'.cell? ⟨B6, 7, none⟩ = some (.int .i64 (a 7)) := hE.cellv (hb6.out.cell 7)
                      exact opStep_val (by simp [execOp, e6, c0, c1, c2, c3, c4, c5, c6, c7, go_sem]) rfl
                    case s2 =>
                      intro w' ev hE hk ha hc hf
                      have e7 : ev (.tmp 7) = .pointer (some ⟨B7, 0, none⟩) := ha 7 (by decide)
                      have c0 : w'.cell? ⟨B7, 0, none⟩ = some (.int .i64 (d 0)) := hE.cellv (hb7.out.cell 0)
                      have c1 : w'.cell? ⟨B7, 1, none⟩ = some (.int .i64 (d 1)) := hE.cellv (hb7.out.cell 1)
                      have c2 : w'.cell? ⟨B7, 2, none⟩ = some (.int .i64 (d 2)) := hE.cellv (hb7.out.cell 2)
                      have c3 : w'.cell? ⟨B7, 3, none⟩ = some (.int .i64 (d 3)) := hE.cellv (hb7.out.cell 3)
                      have c4 : w'.cell? ⟨B7, 4, none⟩ = some (.int .i64 (d 4)) := hE.cellv (hb7.out.cell 4)
                      have c5 : w'.cell? ⟨B7, 5, none⟩ = some (.int .i64 (d 5)) := hE.cellv (hb7.out.cell 5)
                      have c6 : w'.cell? ⟨B7, 6, none⟩ = some (.int .i64 (d 6)) := hE.cellv (hb7.out.cell 6)
                      have c7 : w'.cell? ⟨B7, 7, none⟩ = some (.int .i64 (d 7)) := hE.cellv (hb7.out.cell 7)
                      exact opStep_val (by simp [execOp, e7, c0, c1, c2, c3, c4, c5, c6, c7, go_sem]) rfl
                    case s3 =>
                      intro w' ev hE hk ha hc hf
                      have f50 := hk.1 _ rfl
                      have e51 : ev (.tmp 51) = .agg #[.int .i64 (a 0), .int .i64 (a 1), .int .i64 (a 2), .int .i64 (a 3), .int .i64 (a 4), .int .i64 (a 5), .int .i64 (a 6), .int .i64 (a 7)] := hk.2.1 _ rfl
                      have e52 : ev (.tmp 52) = .agg #[.int .i64 (d 0), .int .i64 (d 1), .int .i64 (d 2), .int .i64 (d 3), .int .i64 (d 4), .int .i64 (d 5), .int .i64 (d 6), .int .i64 (d 7)] := hk.2.2.1 _ rfl
                      refine opStep_call (by simp [execOp, resolve, invoke, hf, e51, e52, go_sem]) (oCmp_any _ [] a d _ f50 hin0.out ha6.out hd6.out) ?_
                      rintro e w1 ⟨rfl, hE1⟩
                      exact ⟨_, rfl, hE1, by rw [oCmp_lex]⟩
                    case s4 =>
                      intro w' ev hE hk ha hc hf
                      have e6 : ev (.tmp 6) = .pointer (some ⟨B6, 0, none⟩) := ha 6 (by decide)
                      have c0 : w'.cell? ⟨B6, 0, none⟩ = some (.int .i64 (a 0)) := hE.cellv (hb6.out.cell 0)
                      have c1 : w'.cell? ⟨B6, 1, none⟩ = some (.int .i64 (a 1)) := hE.cellv (hb6.out.cell 1)
                      have c2 : w'.cell? ⟨B6, 2, none⟩ = some (.int .i64 (a 2)) := hE.cellv (hb6.out.cell 2)
                      have c3 : w'.cell? ⟨B6, 3, none⟩ = some (.int .i64 (a 3)) := hE.cellv (hb6.out.cell 3)
                      have c4 : w'.cell? ⟨B6, 4, none⟩ = some (.int .i64 (a 4)) := hE.cellv (hb6.out.cell 4)
                      have c5 : w'.cell? ⟨B6, 5, none⟩ = some (.int .i64 (a 5)) := hE.cellv (hb6.out.cell 5)
                      have c6 : w'.cell? ⟨B6, 6, none⟩ = some (.int .i64 (a 6)) := hE.cellv (hb6.out.cell 6)
                      have c7 : w'.cell? ⟨B6, 7, none⟩ = some (.int .i64 (a 7)) := hE.cellv (hb6.out.cell 7)
                      exact opStep_val (by simp [execOp, e6, c0, c1, c2, c3, c4, c5, c6, c7, go_sem]) rfl
                    case s5 =>
                      intro w' ev hE hk ha hc hf
                      have e7 : ev (.tmp 7) = .pointer (some ⟨B7, 0, none⟩) := ha 7 (by decide)
                      have c0 : w'.cell? ⟨B7, 0, none⟩ = some (.int .i64 (d 0)) := hE.cellv (hb7.out.cell 0)
                      have c1 : w'.cell? ⟨B7, 1, none⟩ = some (.int .i64 (d 1)) := hE.cellv (hb7.out.cell 1)
                      have c2 : w'.cell? ⟨B7, 2, none⟩ = some (.int .i64 (d 2)) := hE.cellv (hb7.out.cell 2)
                      have c3 : w'.cell? ⟨B7, 3, none⟩ = some (.int .i64 (d 3)) := hE.cellv (hb7.out.cell 3)
                      have c4 : w'.cell? ⟨B7, 4, none⟩ = some (.int .i64 (d 4)) := hE.cellv (hb7.out.cell 4)
                      have c5 : w'.cell? ⟨B7, 5, none⟩ = some (.int .i64 (d 5)) := hE.cellv (hb7.out.cell 5)
                      have c6 : w'.cell? ⟨B7, 6, none⟩ = some (.int .i64 (d 6)) := hE.cellv (hb7.out.cell 6)
                      have c7 : w'.cell? ⟨B7, 7, none⟩ = some (.int .i64 (d 7)) := hE.cellv (hb7.out.cell 7)
                      exact opStep_val (by simp [execOp, e7, c0, c1, c2, c3, c4, c5, c6, c7, go_sem]) rfl
                    case s6 =>
                      intro w' ev hE hk ha hc hf
                      have e54 : ev (.tmp 54) = .agg #[.int .i64 (a 0), .int .i64 (a 1), .int .i64 (a 2), .int .i64 (a 3), .int .i64 (a 4), .int .i64 (a 5), .int .i64 (a 6), .int .i64 (a 7)] := hk.1 _ rfl
                      have e55 : ev (.tmp 55) = .agg #[.int .i64 (d 0), .int .i64 (d 1), .int .i64 (d 2), .int .i64 (d 3), .int .i64 (d 4), .int .i64 (d 5), .int .i64 (d 6), .int .i64 (d 7)] := hk.2.1 _ rfl
                      refine opStep_call (by simp [execOp, resolve, invoke, hf, e54, e55, go_sem]) (mCmp_any a d _) ?_
                      rintro e w1 ⟨rfl, hE1⟩
                      exact ⟨_, rfl, hE1, rfl⟩
                    case s7 =>
                      intro w' ev hE hk ha hc hf
                      have e53 : ev (.tmp 53) = .int .i64 (lex8 a d) := hk.1 _ rfl
                      have e56 : ev (.tmp 56) = .int .i64 (lex8 a d) := hk.2.1 _ rfl
                      exact opStep_val (by simp [execOp, e53, e56, hc, go_sem]) rfl
                    case s8 =>
                      intro w' ev hE hk ha hc hf
                      have e57 : ev (.tmp 57) = .bool true := hk.1 _ rfl
                      exact opStep_val (by simp [execOp, e57, go_sem]) rfl
                    case s9 =>
                      intro w' ev hE hk ha hc hf
                      intro gv hg
                      have hgv := hg _ rfl
                      refine ⟨fun hgt => ?_, fun hgf => ?_⟩
                      · skip
                        refine opStep_call (by simp [execOp, resolve, invoke, hf, go_sem]) (Graded_any _) ?_
                        rintro e w1 ⟨A, c, rfl, hO, hE1⟩
                        exact ⟨_, rfl, hE1, hO.rows⟩
                      · exact absurd hgv hgf
                    case s10 =>
                      intro w' ev hE hk ha hc hf
                      intro gv hg
                      have hgv := hg _ rfl
                      refine ⟨fun hgt => ?_, fun hgf => ?_⟩
                      · skip
                        have e6 : ev (.tmp 6) = .pointer (some ⟨B6, 0, none⟩) := ha 6 (by decide)
                        have c0 : w'.cell? ⟨B6, 0, none⟩ = some (.int .i64 (a 0)) := hE.cellv (hb6.out.cell 0)
                        have c1 : w'.cell? ⟨B6, 1, none⟩ = some (.int .i64 (a 1)) := hE.cellv (hb6.out.cell 1)
                        have c2 : w'.cell? ⟨B6, 2, none⟩ = some (.int .i64 (a 2)) := hE.cellv (hb6.out.cell 2)
                        have c3 : w'.cell? ⟨B6, 3, none⟩ = some (.int .i64 (a 3)) := hE.cellv (hb6.out.cell 3)
                        have c4 : w'.cell? ⟨B6, 4, none⟩ = some (.int .i64 (a 4)) := hE.cellv (hb6.out.cell 4)
                        have c5 : w'.cell? ⟨B6, 5, none⟩ = some (.int .i64 (a 5)) := hE.cellv (hb6.out.cell 5)
                        have c6 : w'.cell? ⟨B6, 6, none⟩ = some (.int .i64 (a 6)) := hE.cellv (hb6.out.cell 6)
                        have c7 : w'.cell? ⟨B6, 7, none⟩ = some (.int .i64 (a 7)) := hE.cellv (hb6.out.cell 7)
                        exact opStep_val (by simp [execOp, e6, c0, c1, c2, c3, c4, c5, c6, c7, go_sem]) rfl
                      · exact absurd hgv hgf
                    case s11 =>
                      intro w' ev hE hk ha hc hf
                      intro gv hg
                      have hgv := hg _ rfl
                      refine ⟨fun hgt => ?_, fun hgf => ?_⟩
                      · skip
                        have e7 : ev (.tmp 7) = .pointer (some ⟨B7, 0, none⟩) := ha 7 (by decide)
                        have c0 : w'.cell? ⟨B7, 0, none⟩ = some (.int .i64 (d 0)) := hE.cellv (hb7.out.cell 0)
                        have c1 : w'.cell? ⟨B7, 1, none⟩ = some (.int .i64 (d 1)) := hE.cellv (hb7.out.cell 1)
                        have c2 : w'.cell? ⟨B7, 2, none⟩ = some (.int .i64 (d 2)) := hE.cellv (hb7.out.cell 2)
                        have c3 : w'.cell? ⟨B7, 3, none⟩ = some (.int .i64 (d 3)) := hE.cellv (hb7.out.cell 3)
                        have c4 : w'.cell? ⟨B7, 4, none⟩ = some (.int .i64 (d 4)) := hE.cellv (hb7.out.cell 4)
                        have c5 : w'.cell? ⟨B7, 5, none⟩ = some (.int .i64 (d 5)) := hE.cellv (hb7.out.cell 5)
                        have c6 : w'.cell? ⟨B7, 6, none⟩ = some (.int .i64 (d 6)) := hE.cellv (hb7.out.cell 6)
                        have c7 : w'.cell? ⟨B7, 7, none⟩ = some (.int .i64 (d 7)) := hE.cellv (hb7.out.cell 7)
                        exact opStep_val (by simp [execOp, e7, c0, c1, c2, c3, c4, c5, c6, c7, go_sem]) rfl
                      · exact absurd hgv hgf
                    case s12 =>
                      intro w' ev hE hk ha hc hf
                      intro gv hg
                      have hgv := hg _ rfl
                      refine ⟨fun hgt => ?_, fun hgf => ?_⟩
                      · skip
                        have f59 := hk.1 _ rfl
                        have e60 : ev (.tmp 60) = .agg #[.int .i64 (a 0), .int .i64 (a 1), .int .i64 (a 2), .int .i64 (a 3), .int .i64 (a 4), .int .i64 (a 5), .int .i64 (a 6), .int .i64 (a 7)] := hk.2.1 _ rfl
                        have e61 : ev (.tmp 61) = .agg #[.int .i64 (d 0), .int .i64 (d 1), .int .i64 (d 2), .int .i64 (d 3), .int .i64 (d 4), .int .i64 (d 5), .int .i64 (d 6), .int .i64 (d 7)] := hk.2.2.1 _ rfl
                        refine opStep_call (by simp [execOp, resolve, invoke, hf, e60, e61, go_sem]) (oCmp_any _ [onesOf 255] a d _ f59 hin1.out ha6.out hd6.out) ?_
                        rintro e w1 ⟨rfl, hE1⟩
                        exact ⟨_, rfl, hE1, by rw [hgr.out]⟩
                      · exact absurd hgv hgf
                    case s13 =>
                      intro w' ev hE hk ha hc hf
                      intro gv hg
                      have hgv := hg _ rfl
                      refine ⟨fun hgt => ?_, fun hgf => ?_⟩
                      · skip
                        have e8 : ev (.tmp 8) = .int .i64 1 := ha 8 (by decide)
                        exact opStep_val (by simp [execOp, e8, go_sem]) rfl
                      · exact absurd hgv hgf
                    case s14 =>
                      intro w' ev hE hk ha hc hf
                      intro gv hg
                      have hgv := hg _ rfl
                      refine ⟨fun hgt => ?_, fun hgf => ?_⟩
                      · skip
                        have e62 : ev (.tmp 62) = .int .i64 1 := hk.1 _ rfl
                        have e63 : ev (.tmp 63) = .int .i64 1 := hk.2.1 _ rfl
                        exact opStep_val (by simp [execOp, e62, e63, hc, go_sem]) rfl
                      · exact absurd hgv hgf
                    case s15 =>
                      intro w' ev hE hk ha hc hf
                      have e58 : ev (.tmp 58) = .bool true := hk.1 _ rfl
                      have e64 : ev (.tmp 64) = .bool true := hk.2.1 _ rfl
                      exact opStep_val (by simp [execOp, e58, e64, hc, go_sem]) rfl
                    case s16 =>
                      intro w' ev hE hk ha hc hf
                      have e65 : ev (.tmp 65) = .bool true := hk.1 _ rfl
                      exact opStep_val (by simp [execOp, e65, go_sem]) rfl
                    case s17 =>
                      intro w' ev hE hk ha hc hf
                      intro gv hg
                      have hgv := hg _ rfl
                      refine ⟨fun hgt => ?_, fun hgf => ?_⟩
                      · skip
                        refine opStep_call (by simp [execOp, resolve, invoke, hf, go_sem]) (Reverse_any _) ?_
                        rintro e w1 ⟨A, c, rfl, hO, hE1⟩
                        exact ⟨_, rfl, hE1, hO.rows⟩
                      · exact absurd hgv hgf
                    case s18 =>
                      intro w' ev hE hk ha hc hf
                      intro gv hg
                      have hgv := hg _ rfl
                      refine ⟨fun hgt => ?_, fun hgf => ?_⟩
                      · skip
                        have e6 : ev (.tmp 6) = .pointer (some ⟨B6, 0, none⟩) := ha 6 (by decide)
                        have c0 : w'.cell? ⟨B6, 0, none⟩ = some (.int .i64 (a 0)) := hE.cellv (hb6.out.cell 0)
                        have c1 : w'.cell? ⟨B6, 1, none⟩ = some (.int .i64 (a 1)) := hE.cellv (hb6.out.cell 1)
                        have c2 : w'.cell? ⟨B6, 2, none⟩ = some (.int .i64 (a 2)) := hE.cellv (hb6.out.cell 2)
                        have c3 : w'.cell? ⟨B6, 3, none⟩ = some (.int .i64 (a 3)) := hE.cellv (hb6.out.cell 3)
                        have c4 : w'.cell? ⟨B6, 4, none⟩ = some (.int .i64 (a 4)) := hE.cellv (hb6.out.cell 4)
                        have c5 : w'.cell? ⟨B6, 5, none⟩ = some (.int .i64 (a 5)) := hE.cellv (hb6.out.cell 5)
                        have c6 : w'.cell? ⟨B6, 6, none⟩ = some (.int .i64 (a 6)) := hE.cellv (hb6.out.cell 6)
                        have c7 : w'.cell? ⟨B6, 7, none⟩ = some (.int .i64 (a 7)) := hE.cellv (hb6.out.cell 7)
                        exact opStep_val (by simp [execOp, e6, c0, c1, c2, c3, c4, c5, c6, c7, go_sem]) rfl
                      · exact absurd hgv hgf
                    case s19 =>
                      intro w' ev hE hk ha hc hf
                      intro gv hg
                      have hgv := hg _ rfl
                      refine ⟨fun hgt => ?_, fun hgf => ?_⟩
                      · skip
                        have e7 : ev (.tmp 7) = .pointer (some ⟨B7, 0, none⟩) := ha 7 (by decide)
                        have c0 : w'.cell? ⟨B7, 0, none⟩ = some (.int .i64 (d 0)) := hE.cellv (hb7.out.cell 0)
                        have c1 : w'.cell? ⟨B7, 1, none⟩ = some (.int .i64 (d 1)) := hE.cellv (hb7.out.cell 1)
                        have c2 : w'.cell? ⟨B7, 2, none⟩ = some (.int .i64 (d 2)) := hE.cellv (hb7.out.cell 2)
                        have c3 : w'.cell? ⟨B7, 3, none⟩ = some (.int .i64 (d 3)) := hE.cellv (hb7.out.cell 3)
                        have c4 : w'.cell? ⟨B7, 4, none⟩ = some (.int .i64 (d 4)) := hE.cellv (hb7.out.cell 4)
                        have c5 : w'.cell? ⟨B7, 5, none⟩ = some (.int .i64 (d 5)) := hE.cellv (hb7.out.cell 5)
                        have c6 : w'.cell? ⟨B7, 6, none⟩ = some (.int .i64 (d 6)) := hE.cellv (hb7.out.cell 6)
                        have c7 : w'.cell? ⟨B7, 7, none⟩ = some (.int .i64 (d 7)) := hE.cellv (hb7.out.cell 7)
                        exact opStep_val (by simp [execOp, e7, c0, c1, c2, c3, c4, c5, c6, c7, go_sem]) rfl
                      · exact absurd hgv hgf
                    case s20 =>
                      intro w' ev hE hk ha hc hf
                      intro gv hg
                      have hgv := hg _ rfl
                      refine ⟨fun hgt => ?_, fun hgf => ?_⟩
                      · skip
                        have f67 := hk.1 _ rfl
                        have e68 : ev (.tmp 68) = .agg #[.int .i64 (a 0), .int .i64 (a 1), .int .i64 (a 2), .int .i64 (a 3), .int .i64 (a 4), .int .i64 (a 5), .int .i64 (a 6), .int .i64 (a 7)] := hk.2.1 _ rfl
                        have e69 : ev (.tmp 69) = .agg #[.int .i64 (d 0), .int .i64 (d 1), .int .i64 (d 2), .int .i64 (d 3), .int .i64 (d 4), .int .i64 (d 5), .int .i64 (d 6), .int .i64 (d 7)] := hk.2.2.1 _ rfl
                        refine opStep_call (by simp [execOp, resolve, invoke, hf, e68, e69, go_sem]) (oCmp_any _ revRows a d _ f67 hin2.out ha6.out hd6.out) ?_
                        rintro e w1 ⟨rfl, hE1⟩
                        exact ⟨_, rfl, hE1, by rw [hrv.out]⟩
                      · exact absurd hgv hgf
                    case s21 =>
                      intro w' ev hE hk ha hc hf
                      intro gv hg
                      have hgv := hg _ rfl
                      refine ⟨fun hgt => ?_, fun hgf => ?_⟩
                      · skip
                        have e9 : ev (.tmp 9) = .int .i64 1 := ha 9 (by decide)
                        exact opStep_val (by simp [execOp, e9, go_sem]) rfl
                      · exact absurd hgv hgf
                    case s22 =>
                      intro w' ev hE hk ha hc hf
                      intro gv hg
                      have hgv := hg _ rfl
                      refine ⟨fun hgt => ?_, fun hgf => ?_⟩
                      · skip
                        have e70 : ev (.tmp 70) = .int .i64 1 := hk.1 _ rfl
                        have e71 : ev (.tmp 71) = .int .i64 1 := hk.2.1 _ rfl
                        exact opStep_val (by simp [execOp, e70, e71, hc, go_sem]) rfl
                      · exact absurd hgv hgf
                    case s23 =>
                      intro w' ev hE hk ha hc hf
                      have e66 : ev (.tmp 66) = .bool true := hk.1 _ rfl
                      have e72 : ev (.tmp 72) = .bool true := hk.2.1 _ rfl
                      exact opStep_val (by simp [execOp, e66, e72, hc, go_sem]) rfl
                    case s24 =>
                      intro w' ev hE hk ha hc hf
                      have e73 : ev (.tmp 73) = .bool true := hk.1 _ rfl
                      exact opStep_val (by simp [execOp, e73, go_sem]) rfl
                    case s25 =>
                      intro w' ev hE hk ha hc hf
                      intro gv hg
                      have hgv := hg _ rfl
                      refine ⟨fun hgt => ?_, fun hgf => ?_⟩
                      · skip
                        have e5 : ev (.tmp 5) = .bool true := ha 5 (by decide)
                        exact opStep_val (by simp [execOp, e5, go_sem]) rfl
                      · exact absurd hgv hgf
                    case s26 =>
                      intro w' ev hE hk ha hc hf
                      have e74 : ev (.tmp 74) = .bool true := hk.1 _ rfl
                      have e75 : ev (.tmp 75) = .bool true := hk.2.1 _ rfl
                      exact opStep_val (by simp [execOp, e74, e75, hc, go_sem]) rfl
                  case fin =>
                    intro g w' hE hF
                    have e26 := hF 26 _ rfl
                    simp only [List.length_cons, List.length_nil, Nat.reduceAdd, List.drop_succ_cons, List.drop_zero, List.take_succ_cons, List.take_zero, putG, Act.put, List.setIfInBounds_toArray, List.set_cons_succ, List.set_cons_zero, e26]
                    go_wp2
                    go_ret
                    exact ⟨rfl, hEw.out.trans ((Ext.refl _).drew.trans hE)⟩

end Go.Proofs.Yteefhmdameeoaaa
