/-
  The law OrderEliminates returns true for every input: Eliminating eliminates its variables; in an order that eliminates variables a monomial in which one of them occurs is greater than one in which none of them occurs.
-/
import Derived.Test.YteefhmdameeoaaaStores
import Derived.Test.YteefhmdameeoaaaLaw4
import Derived.Test.YteefhmdameeoaaaBridge
set_option linter.unusedSimpArgs false
set_option linter.unusedVariables false
namespace Go.Proofs.Yteefhmdameeoaaa
open Go.ChangeShapes Go.WideShapes Go.ChangeAt Go.RowKit Go.Deep

set_option maxRecDepth 100000 in
set_option maxHeartbeats 16000000 in
theorem elim_walk (v : Value) (X : List (Nat → Int)) (m : Nat) (x0 x1 : Nat → Int) (w : World) (hv : RowsIn .i8 w v X) (hX : ∀ r ∈ X, In8 r (-128) 127) (hm : m < 256) (hx0 : In8 x0 0 65535) (hx1 : In8 x1 0 65535) :
    Calls Try.prog 5 #[.agg #[v], .int .u8 m, .agg #[.int .u16 (x0 0), .int .u16 (x0 1), .int .u16 (x0 2), .int .u16 (x0 3), .int .u16 (x0 4), .int .u16 (x0 5), .int .u16 (x0 6), .int .u16 (x0 7), .int .u16 (x1 0), .int .u16 (x1 1), .int .u16 (x1 2), .int .u16 (x1 3), .int .u16 (x1 4), .int .u16 (x1 5), .int .u16 (x1 6), .int .u16 (x1 7)]] w fun e w' => e = .returned (.bool true) ∧ Ext w w' := by
  obtain ⟨A0, c0, rfl, k0⟩ := id hv
  clear k0
  have hb2 : Hid (Blk ((w.alloc (.cells #[.slice A0 X.length c0] 24)).alloc (.cells #[.int .u16 (x0 0), .int .u16 (x0 1), .int .u16 (x0 2), .int .u16 (x0 3), .int .u16 (x0 4), .int .u16 (x0 5), .int .u16 (x0 6), .int .u16 (x0 7), .int .u16 (x1 0), .int .u16 (x1 1), .int .u16 (x1 2), .int .u16 (x1 3), .int .u16 (x1 4), .int .u16 (x1 5), .int .u16 (x1 6), .int .u16 (x1 7)] 42)) w.heap.size 24 #[.slice A0 X.length c0]) := (Blk.new _ _ _).alloc _
  have hb3 : Hid (Blk ((w.alloc (.cells #[.slice A0 X.length c0] 24)).alloc (.cells #[.int .u16 (x0 0), .int .u16 (x0 1), .int .u16 (x0 2), .int .u16 (x0 3), .int .u16 (x0 4), .int .u16 (x0 5), .int .u16 (x0 6), .int .u16 (x0 7), .int .u16 (x1 0), .int .u16 (x1 1), .int .u16 (x1 2), .int .u16 (x1 3), .int .u16 (x1 4), .int .u16 (x1 5), .int .u16 (x1 6), .int .u16 (x1 7)] 42)) (w.heap.size + 1) 42 #[.int .u16 (x0 0), .int .u16 (x0 1), .int .u16 (x0 2), .int .u16 (x0 3), .int .u16 (x0 4), .int .u16 (x0 5), .int .u16 (x0 6), .int .u16 (x0 7), .int .u16 (x1 0), .int .u16 (x1 1), .int .u16 (x1 2), .int .u16 (x1 3), .int .u16 (x1 4), .int .u16 (x1 5), .int .u16 (x1 6), .int .u16 (x1 7)]) := Blk.new' _ _ (by simp)
  have hE0 : Hid (Ext w ((w.alloc (.cells #[.slice A0 X.length c0] 24)).alloc (.cells #[.int .u16 (x0 0), .int .u16 (x0 1), .int .u16 (x0 2), .int .u16 (x0 3), .int .u16 (x0 4), .int .u16 (x0 5), .int .u16 (x0 6), .int .u16 (x0 7), .int .u16 (x1 0), .int .u16 (x1 1), .int .u16 (x1 2), .int .u16 (x1 3), .int .u16 (x1 4), .int .u16 (x1 5), .int .u16 (x1 6), .int .u16 (x1 7)] 42))) := ((Ext.refl w).alloc _).alloc _
  replace hv := hide hv
  replace hX := hide hX
  replace hx0 := hide hx0
  replace hx1 := hide hx1
  have hER := hide (elim_in m)
  have hel := hide (elimB_true (elim_elim hm))
  have hvl := hide (ovB_true (valid_elim m))
  go_enter Try.func5, Try.ntmps5
  go_wp2_with fail
  generalize ((w.alloc (.cells #[.slice A0 X.length c0] 24)).alloc (.cells #[.int .u16 (x0 0), .int .u16 (x0 1), .int .u16 (x0 2), .int .u16 (x0 3), .int .u16 (x0 4), .int .u16 (x0 5), .int .u16 (x0 6), .int .u16 (x0 7), .int .u16 (x1 0), .int .u16 (x1 1), .int .u16 (x1 2), .int .u16 (x1 3), .int .u16 (x1 4), .int .u16 (x1 5), .int .u16 (x1 6), .int .u16 (x1 7)] 42)) = wa at *
  refine (examples_any _).mono ?_
  rintro e w1 ⟨rfl, hE1⟩
  have hEq := hide (hE0.out.trans hE1)
  replace hb2 := hide (hb2.out.ext hE1)
  replace hb3 := hide (hb3.out.ext hE1)
  clear hE1 hE0
  go_wp2_with fail
  refine (Eliminating_any m _ hm).mono ?_
  rintro e w2 ⟨A1, c1, rfl, hO, hE1⟩
  replace hEq := hide (hEq.out.trans hE1)
  replace hb2 := hide (hb2.out.ext hE1)
  replace hb3 := hide (hb3.out.ext hE1)
  replace hO := hide hO.rows
  clear hE1
  go_wp2_with fail
  refine (Eliminates_any _ _ m _ hO.out hER.out hm).mono ?_
  rintro e w3 ⟨rfl, hE1⟩
  rw [hel.out]
  replace hEq := hide (hEq.out.trans hE1)
  replace hb2 := hide (hb2.out.ext hE1)
  replace hb3 := hide (hb3.out.ext hE1)
  clear hE1 hO
  go_wp2_with fail
  refine (Eliminating_any m _ hm).mono ?_
  rintro e w4 ⟨A1, c1, rfl, hO, hE1⟩
  replace hEq := hide (hEq.out.trans hE1)
  replace hb2 := hide (hb2.out.ext hE1)
  replace hb3 := hide (hb3.out.ext hE1)
  replace hO := hide hO.rows
  clear hE1
  go_wp2_with fail
  refine (oValid_any _ _ _ hO.out).mono ?_
  rintro e wq ⟨rfl, hE1⟩
  rw [hvl.out]
  replace hEq := hide (hEq.out.trans hE1)
  replace hb2 := hide (hb2.out.ext hE1)
  replace hb3 := hide (hb3.out.ext hE1)
  clear hE1 hO hel hvl
  have hsq : w.heap.size ≤ wq.heap.size := hEq.out.size
  go_upto_region 6 with (fail)
  obtain ⟨B2, hB2⟩ : ∃ B2, B2 = w.heap.size := ⟨_, rfl⟩
  obtain ⟨B3, hB3⟩ : ∃ B3, B3 = w.heap.size + 1 := ⟨_, rfl⟩
  rw [← hB3] at hb3 ⊢
  rw [← hB2] at hb2 ⊢
  replace hB2 := hide hB2
  replace hB3 := hide hB3
  refine RegF.wp_region_v (by kernel_rfl) [[], [(26, 0)], [(27, 1)], [], [(29, 3)], [(30, 4)], [], []] [[], [0], [0, 1], [], [3], [0, 1, 2, 3, 4], [], []]
    [fun v _ => v = .pointer (some ⟨B3, 0, none⟩), fun v _ => v = .agg #[.int .u16 (x0 0), .int .u16 (x0 1), .int .u16 (x0 2), .int .u16 (x0 3), .int .u16 (x0 4), .int .u16 (x0 5), .int .u16 (x0 6), .int .u16 (x0 7)], fun v _ => v = .agg #[.int .i64 (monoOf x0 0), .int .i64 (monoOf x0 1), .int .i64 (monoOf x0 2), .int .i64 (monoOf x0 3), .int .i64 (monoOf x0 4), .int .i64 (monoOf x0 5), .int .i64 (monoOf x0 6), .int .i64 (monoOf x0 7)], fun v _ => v = .pointer (some ⟨B3, 8, none⟩), fun v _ => v = .agg #[.int .u16 (x1 0), .int .u16 (x1 1), .int .u16 (x1 2), .int .u16 (x1 3), .int .u16 (x1 4), .int .u16 (x1 5), .int .u16 (x1 6), .int .u16 (x1 7)], fun v _ => v = .agg #[.int .i64 (monoOf x1 0), .int .i64 (monoOf x1 1), .int .i64 (monoOf x1 2), .int .i64 (monoOf x1 3), .int .i64 (monoOf x1 4), .int .i64 (monoOf x1 5), .int .i64 (monoOf x1 6), .int .i64 (monoOf x1 7)], NewM wq.heap.size, NewM wq.heap.size]
    rfl (by kernel_rfl) (by kernel_rfl) ?stab ?steps ?fin
  case stab => exact .cons (Stab.eq _) (.cons (Stab.eq _) (.cons (Stab.eq _) (.cons (Stab.eq _) (.cons (Stab.eq _) (.cons (Stab.eq _) (.cons (fun _ _ _ he h => h.ext he) (.cons (fun _ _ _ he h => h.ext he) .nil)))))))
  case steps =>
    refine .cons ?s0 (.cons ?s1 (.cons ?s2 (.cons ?s3 (.cons ?s4 (.cons ?s5 (.cons ?s6 (.cons ?s7 .nil)))))))
    case s0 =>
      intro w' ev hE hk ha hc hf
      have e5 : ev (.tmp 5) = .pointer (some ⟨B3, 0, none⟩) := ha 5 (by decide)
      exact RegF.opStep_val rfl (by simp [execOp, e5, hc, go_sem]) rfl
    case s1 =>
      intro w' ev hE hk ha hc hf
      have e26 : ev (.tmp 26) = .pointer (some ⟨B3, 0, none⟩) := hk.1 _ rfl
      have c0 : w'.cell? ⟨B3, 0, none⟩ = some (.int .u16 (x0 0)) := hE.cellv (hb3.out.cell 0)
      have c1 : w'.cell? ⟨B3, 1, none⟩ = some (.int .u16 (x0 1)) := hE.cellv (hb3.out.cell 1)
      have c2 : w'.cell? ⟨B3, 2, none⟩ = some (.int .u16 (x0 2)) := hE.cellv (hb3.out.cell 2)
      have c3 : w'.cell? ⟨B3, 3, none⟩ = some (.int .u16 (x0 3)) := hE.cellv (hb3.out.cell 3)
      have c4 : w'.cell? ⟨B3, 4, none⟩ = some (.int .u16 (x0 4)) := hE.cellv (hb3.out.cell 4)
      have c5 : w'.cell? ⟨B3, 5, none⟩ = some (.int .u16 (x0 5)) := hE.cellv (hb3.out.cell 5)
      have c6 : w'.cell? ⟨B3, 6, none⟩ = some (.int .u16 (x0 6)) := hE.cellv (hb3.out.cell 6)
      have c7 : w'.cell? ⟨B3, 7, none⟩ = some (.int .u16 (x0 7)) := hE.cellv (hb3.out.cell 7)
      exact RegF.opStep_val rfl (by simp [execOp, e26, c0, c1, c2, c3, c4, c5, c6, c7, go_sem]) rfl
    case s2 =>
      intro w' ev hE hk ha hc hf
      have e27 : ev (.tmp 27) = .agg #[.int .u16 (x0 0), .int .u16 (x0 1), .int .u16 (x0 2), .int .u16 (x0 3), .int .u16 (x0 4), .int .u16 (x0 5), .int .u16 (x0 6), .int .u16 (x0 7)] := hk.1 _ rfl
      refine RegF.opStep_call rfl (by simp [execOp, resolve, invoke, hf, e27, go_sem]) (mono_any x0 _ hx0.out) ?_
      rintro e w1 ⟨rfl, hE1⟩
      exact ⟨_, rfl, hE1, rfl⟩
    case s3 =>
      intro w' ev hE hk ha hc hf
      have e5 : ev (.tmp 5) = .pointer (some ⟨B3, 0, none⟩) := ha 5 (by decide)
      exact RegF.opStep_val rfl (by simp [execOp, e5, hc, go_sem]) rfl
    case s4 =>
      intro w' ev hE hk ha hc hf
      have e29 : ev (.tmp 29) = .pointer (some ⟨B3, 8, none⟩) := hk.1 _ rfl
      have c0 : w'.cell? ⟨B3, 8, none⟩ = some (.int .u16 (x1 0)) := hE.cellv (hb3.out.cell 8)
      have c1 : w'.cell? ⟨B3, 9, none⟩ = some (.int .u16 (x1 1)) := hE.cellv (hb3.out.cell 9)
      have c2 : w'.cell? ⟨B3, 10, none⟩ = some (.int .u16 (x1 2)) := hE.cellv (hb3.out.cell 10)
      have c3 : w'.cell? ⟨B3, 11, none⟩ = some (.int .u16 (x1 3)) := hE.cellv (hb3.out.cell 11)
      have c4 : w'.cell? ⟨B3, 12, none⟩ = some (.int .u16 (x1 4)) := hE.cellv (hb3.out.cell 12)
      have c5 : w'.cell? ⟨B3, 13, none⟩ = some (.int .u16 (x1 5)) := hE.cellv (hb3.out.cell 13)
      have c6 : w'.cell? ⟨B3, 14, none⟩ = some (.int .u16 (x1 6)) := hE.cellv (hb3.out.cell 14)
      have c7 : w'.cell? ⟨B3, 15, none⟩ = some (.int .u16 (x1 7)) := hE.cellv (hb3.out.cell 15)
      exact RegF.opStep_val rfl (by simp [execOp, e29, c0, c1, c2, c3, c4, c5, c6, c7, go_sem]) rfl
    case s5 =>
      intro w' ev hE hk ha hc hf
      have e30 : ev (.tmp 30) = .agg #[.int .u16 (x1 0), .int .u16 (x1 1), .int .u16 (x1 2), .int .u16 (x1 3), .int .u16 (x1 4), .int .u16 (x1 5), .int .u16 (x1 6), .int .u16 (x1 7)] := hk.1 _ rfl
      refine RegF.opStep_call rfl (by simp [execOp, resolve, invoke, hf, e30, go_sem]) (mono_any x1 _ hx1.out) ?_
      rintro e w1 ⟨rfl, hE1⟩
      exact ⟨_, rfl, hE1, rfl⟩
    case s6 =>
      intro w' ev hE hk ha hc hf
      exact RegF.opStep_new (ob := .cells #[.int .i64 0, .int .i64 0, .int .i64 0, .int .i64 0, .int .i64 0, .int .i64 0, .int .i64 0, .int .i64 0] 35) (by simp [execOp, go_sem]) ⟨_, rfl, hE.size, Blk.new _ _ _⟩
    case s7 =>
      intro w' ev hE hk ha hc hf
      exact RegF.opStep_new (ob := .cells #[.int .i64 0, .int .i64 0, .int .i64 0, .int .i64 0, .int .i64 0, .int .i64 0, .int .i64 0, .int .i64 0] 35) (by simp [execOp, go_sem]) ⟨_, rfl, hE.size, Blk.new _ _ _⟩
  case fin =>
    intro gf w' hE hF hap
    obtain ⟨B8, e6, s8, b8⟩ := hF 6 _ rfl
    obtain ⟨B9, e7, s9, b9⟩ := hF 7 _ rfl
    have n89 : B8 ≠ B9 := fun h => hap 6 7 _ _ (by decide) (by decide) rfl rfl rfl rfl (by decide) (by rw [e6, e7, h])
    simp only [List.length_cons, List.length_nil, Nat.reduceAdd, List.drop_succ_cons, List.drop_zero, List.take_succ_cons, List.take_zero, putG, Act.put, List.setIfInBounds_toArray, List.set_cons_succ, List.set_cons_zero, e6, e7, hF 2 _ rfl, hF 5 _ rfl]
    have l2 : B2 < wq.heap.size := hb2.out.lt
    have n28 : B2 ≠ B8 := by omega
    have n29 : B2 ≠ B9 := by omega
    have r8 := hide (run_store_mono b8 (monoOf x0))
    have b8' := putM_blk b8 (monoOf x0)
    have b9' := putM_far b9 n89.symm (monoOf x0)
    have r9 := hide (run_store_mono b9' (monoOf x1))
    have hb8 := hide (putM_far b8' n89 (monoOf x1))
    have hb9 := hide (putM_blk b9' (monoOf x1))
    have hEw : Hid (Ext w (putM (putM w' B8 (monoOf x0)) B9 (monoOf x1))) := putM_ext (putM_ext (hEq.out.trans ((Ext.refl _).drew.trans hE)) (by omega) _) (by omega) _
    replace hb2 := hide (putM_far (putM_far (hb2.out.ext ((Ext.refl _).drew.trans hE)) n28 (monoOf x0)) n29 (monoOf x1))
    clear hF hap e6 e7 b8 b9 b8' b9' hE hb3
    go_upto_region 7 with (refine wpList_store_go rfl rfl rfl r8.out rfl rfl ?_; refine wpList_store_go rfl rfl rfl r9.out rfl rfl ?_)
    clear r8 r9
    generalize (putM (putM w' B8 (monoOf x0)) B9 (monoOf x1)) = w1 at *
    have hB9w : w.heap.size ≤ B9 := by omega
    have ha := hide (monoOf_in hx0.out)
    have hb := hide (monoOf_in hx1.out)
    have hV : Hid (OValid (madeRows X)) := made_valid hX.out
    clear hsq hx0 hx1 s8 s9 hEq hB2 hB3 l2
    generalize monoOf x0 = a at *
    generalize monoOf x1 = b at *
    go_wp2
    go_loopw [10] (fun i wr => ∃ k : Nat, k ≤ 8 ∧ i = .int .i64 k ∧ Hid (Blk wr B2 24 #[.slice A0 X.length c0] ∧ Blk wr B8 35 (c8 a) ∧ Blk wr B9 35 (c8 (zeroTo b m k)) ∧ Ext w wr)) (fun i _ => 8 - (intOf i).toNat)
    case atStart => exact ⟨0, by omega, rfl, hb2.out, hb8.out, by rw [show zeroTo b m 0 = b from funext fun i => by simp [zeroTo]]; exact hb9.out, hEw.out⟩
    case round =>
      obtain ⟨k, hk, rfl, hI⟩ := hrel
      clear hb2 hb8 hb9 hEw
      by_cases hlt : k < 8
      · have hd1 : decide ((k : Int) < 8) = true := by simp; omega
        go_wp2_with fail
        refine (In_any m k _ hm hlt).mono ?_
        rintro e w' ⟨rfl, rfl⟩
        cases htb : m.testBit k with
        | false =>
          have hz : Hid (zeroTo b m (k + 1) = zeroTo b m k) := zeroTo_skip htb
          replace htb := hide htb
          go_wp2
          exact ⟨⟨k + 1, hlt, by simp, hI.out.1, hI.out.2.1, by rw [hz.out]; exact hI.out.2.2.1, hI.out.2.2.2⟩, by simp [intOf]; omega⟩
        | true =>
          have xo := hI.out.2.2.1.at8 hlt
          have xz := hI.out.2.2.1.frozen k
          have hset : Hid (Blk (wr.setCell ⟨B9, k, none⟩ (.int .i64 0)) B9 35 (c8 (zeroTo b m (k + 1)))) :=
            hI.out.2.2.1.set8' hlt _ (by simp [zeroTo, htb]) fun i hi hne => by simp [zeroTo, show i < k + 1 ↔ i < k by omega]
          replace htb := hide htb
          generalize zeroTo b m k k = old at *
          go_wp2
          exact ⟨⟨k + 1, hlt, by simp, hI.out.1.far (by dsimp only; omega) _, hI.out.2.1.far (by dsimp only; omega) _, hset.out, hI.out.2.2.2.set (p := ⟨B9, k, none⟩) (by dsimp only; omega) _⟩, by simp [intOf]; omega⟩
      · obtain rfl : k = 8 := by omega
        have hd1 : decide (((8 : Nat) : Int) < 8) = false := by simp
        obtain ⟨hb2, hb8, hb9, hEw⟩ := hI.out
        clear hI
        replace hb2 := hide hb2
        replace hb8 := hide hb8
        replace hb9 := hide hb9
        replace hEw := hide hEw
        have hd : Hid (In8 (zeroTo b m 8) 0 19999) := fun i hi => by have := hb.out i hi; simp only [zeroTo]; split <;> omega
        have hel1 := hide (fun (R : List (Nat → Int)) (h1 : OValid R) (h2 : Elim R m) (h3 : suppTo a 8 &&& m ≠ 0) => elim_cmp (b := b) h1 h2 (fun i hi => (ha.out i hi).1) (supp_of h3))
        generalize zeroTo b m 8 = d at *
        have ha6 : Hid (In8 a (-1000000) 1000000) := ha.out.mono (by omega) (by omega)
        have hd6 : Hid (In8 d (-1000000) 1000000) := hd.out.mono (by omega) (by omega)
        have hsl := suppTo_lt a 8
        have hband := bits_and_u8 (suppTo a 8) m hsl hm
        clear ha hb hd n89 n28 n29 hB9w
        generalize hs : suppTo a 8 = s at *
        replace hs := hide hs
        obtain ⟨t, ht⟩ : ∃ t, t = s &&& m := ⟨_, rfl⟩
        rw [← ht] at hband hel1
        replace ht := hide ht
        have q0 : (wr).cell? ⟨B8, 0, none⟩ = some (.int .i64 (a 0)) := (hb8.out).cell 0
        have q1 : (wr).cell? ⟨B8, 1, none⟩ = some (.int .i64 (a 1)) := (hb8.out).cell 1
        have q2 : (wr).cell? ⟨B8, 2, none⟩ = some (.int .i64 (a 2)) := (hb8.out).cell 2
        have q3 : (wr).cell? ⟨B8, 3, none⟩ = some (.int .i64 (a 3)) := (hb8.out).cell 3
        have q4 : (wr).cell? ⟨B8, 4, none⟩ = some (.int .i64 (a 4)) := (hb8.out).cell 4
        have q5 : (wr).cell? ⟨B8, 5, none⟩ = some (.int .i64 (a 5)) := (hb8.out).cell 5
        have q6 : (wr).cell? ⟨B8, 6, none⟩ = some (.int .i64 (a 6)) := (hb8.out).cell 6
        have q7 : (wr).cell? ⟨B8, 7, none⟩ = some (.int .i64 (a 7)) := (hb8.out).cell 7
        by_cases h0 : t = 0
        · subst h0
          go_wp2_with fail
          refine (Support_any a _).mono ?_
          rintro e w2 ⟨rfl, hE1⟩
          rw [hs.out]
          replace hEw := hide (hEw.out.trans hE1)
          clear hE1 q0 q1 q2 q3 q4 q5 q6 q7
          go_wp2
          go_ret
          exact ⟨rfl, hEw.out⟩
        · have hb0 : ((t : Int) == 0) = false := by simp; omega
          go_wp2_with fail
          refine (Support_any a _).mono ?_
          rintro e w2 ⟨rfl, hE1⟩
          rw [hs.out]
          replace hEw := hide (hEw.out.trans hE1)
          replace hb2 := hide (hb2.out.ext hE1)
          replace hb8 := hide (hb8.out.ext hE1)
          replace hb9 := hide (hb9.out.ext hE1)
          have y0 : w2.cell? ⟨B2, 0, none⟩ = some (.slice A0 X.length c0) := hb2.out.cell 0
          clear hE1 q0 q1 q2 q3 q4 q5 q6 q7
          have hcE := hide (hel1.out _ (valid_elim m) (elim_elim hm) h0)
          have hcR := hide (fun h => hel1.out _ hV.out h h0)
          have hR := hide hV.out.in8
          clear hel1 hV
          go_wp2_with fail
          refine (Made_any _ X _ (hv.out.ext hEw.out) hX.out).mono ?_
          rintro e w3 ⟨A1, c1, rfl, hO, hE1⟩
          replace hEw := hide (hEw.out.trans hE1)
          replace hb8 := hide (hb8.out.ext hE1)
          replace hb9 := hide (hb9.out.ext hE1)
          replace hO := hide hO.rows
          clear hE1 hv hX hb2 y0 hband hb0
          generalize madeRows X = R at *
          go_wp2_with fail
          refine (Eliminates_any _ R m _ hO.out hR.out hm).mono ?_
          rintro e w4 ⟨rfl, hE1⟩
          replace hEw := hide (hEw.out.trans hE1)
          replace hb8 := hide (hb8.out.ext hE1)
          replace hb9 := hide (hb9.out.ext hE1)
          replace hO := hide (hO.out.ext hE1)
          clear hE1
          by_cases he : Elim R m
          · rw [elimB_true he]
            have hn1 := hide (hcR.out he)
            replace he := hide he
            clear hcR
            have q0 : (w4).cell? ⟨B8, 0, none⟩ = some (.int .i64 (a 0)) := (hb8.out).cell 0
            have q1 : (w4).cell? ⟨B8, 1, none⟩ = some (.int .i64 (a 1)) := (hb8.out).cell 1
            have q2 : (w4).cell? ⟨B8, 2, none⟩ = some (.int .i64 (a 2)) := (hb8.out).cell 2
            have q3 : (w4).cell? ⟨B8, 3, none⟩ = some (.int .i64 (a 3)) := (hb8.out).cell 3
            have q4 : (w4).cell? ⟨B8, 4, none⟩ = some (.int .i64 (a 4)) := (hb8.out).cell 4
            have q5 : (w4).cell? ⟨B8, 5, none⟩ = some (.int .i64 (a 5)) := (hb8.out).cell 5
            have q6 : (w4).cell? ⟨B8, 6, none⟩ = some (.int .i64 (a 6)) := (hb8.out).cell 6
            have q7 : (w4).cell? ⟨B8, 7, none⟩ = some (.int .i64 (a 7)) := (hb8.out).cell 7
            have r0 : (w4).cell? ⟨B9, 0, none⟩ = some (.int .i64 (d 0)) := (hb9.out).cell 0
            have r1 : (w4).cell? ⟨B9, 1, none⟩ = some (.int .i64 (d 1)) := (hb9.out).cell 1
            have r2 : (w4).cell? ⟨B9, 2, none⟩ = some (.int .i64 (d 2)) := (hb9.out).cell 2
            have r3 : (w4).cell? ⟨B9, 3, none⟩ = some (.int .i64 (d 3)) := (hb9.out).cell 3
            have r4 : (w4).cell? ⟨B9, 4, none⟩ = some (.int .i64 (d 4)) := (hb9.out).cell 4
            have r5 : (w4).cell? ⟨B9, 5, none⟩ = some (.int .i64 (d 5)) := (hb9.out).cell 5
            have r6 : (w4).cell? ⟨B9, 6, none⟩ = some (.int .i64 (d 6)) := (hb9.out).cell 6
            have r7 : (w4).cell? ⟨B9, 7, none⟩ = some (.int .i64 (d 7)) := (hb9.out).cell 7
            go_wp2_with fail
            refine (oCmp_any _ R a d _ hO.out hR.out ha6.out hd6.out).mono ?_
            rintro e w5 ⟨rfl, hE1⟩
            rw [hn1.out]
            replace hEw := hide (hEw.out.trans hE1)
            replace hb8 := hide (hb8.out.ext hE1)
            replace hb9 := hide (hb9.out.ext hE1)
            clear hE1
            clear q0 q1 q2 q3 q4 q5 q6 q7 r0 r1 r2 r3 r4 r5 r6 r7
            go_upto_region 17 with (fail)
            refine wp_region_v (by kernel_rfl) [[], [(59, 0)], [], [], [(60, 1), (61, 2), (62, 3)], [(63, 4)], [(64, 5)], [], [(65, 6), (66, 7)]] [[], [0], [], [], [0, 1, 2, 3], [0, 1, 2, 3, 4], [0, 1, 2, 3, 4, 5], [0, 1, 2, 3, 4, 5, 6], [0, 1, 2, 3, 4, 5, 6, 7]]
              [fun v _ => v = .int .u8 (m : Int), fun v w' => RowsAt .i64 34 w' v (onesOf m :: revRows), fun v _ => v = .agg #[.int .i64 (a 0), .int .i64 (a 1), .int .i64 (a 2), .int .i64 (a 3), .int .i64 (a 4), .int .i64 (a 5), .int .i64 (a 6), .int .i64 (a 7)], fun v _ => v = .agg #[.int .i64 (d 0), .int .i64 (d 1), .int .i64 (d 2), .int .i64 (d 3), .int .i64 (d 4), .int .i64 (d 5), .int .i64 (d 6), .int .i64 (d 7)], fun v _ => v = .int .i64 1, fun v _ => v = .bool true, fun v _ => v = .bool true, fun v _ => v = .bool true, fun v _ => v = .bool true]
              rfl (by kernel_rfl) (by kernel_rfl) ?stab ?steps ?fin
            case stab => exact .cons (Stab.eq _) (.cons (fun _ _ _ he h => h.ext he) (.cons (Stab.eq _) (.cons (Stab.eq _) (.cons (Stab.eq _) (.cons (Stab.eq _) (.cons (Stab.eq _) (.cons (Stab.eq _) (.cons (Stab.eq _) .nil))))))))
            case steps =>
              refine .cons ?s0 (.cons ?s1 (.cons ?s2 (.cons ?s3 (.cons ?s4 (.cons ?s5 (.cons ?s6 (.cons ?s7 (.cons ?s8 .nil))))))))
              case s0 =>
                intro w' ev hE hk ha hc hf
                have e1 : ev (.tmp 1) = .int .u8 (m : Int) := ha 1 (by decide)
                exact opStep_val (by simp [execOp, e1, go_sem]) rfl
              case s1 =>
                intro w' ev hE hk ha hc hf
                have e59 : ev (.tmp 59) = .int .u8 (m : Int) := hk.1 _ rfl
                refine opStep_call (by simp [execOp, resolve, invoke, hf, e59, go_sem]) (Eliminating_any m _ hm) ?_
                rintro e w1 ⟨A, c, rfl, hO, hE1⟩
                exact ⟨_, rfl, hE1, hO.rows⟩
              case s2 =>
                intro w' ev hE hk ha hc hf
                have e8 : ev (.tmp 8) = .pointer (some ⟨B8, 0, none⟩) := ha 8 (by decide)
                have c0 : w'.cell? ⟨B8, 0, none⟩ = some (.int .i64 (a 0)) := hE.cellv (hb8.out.cell 0)
                have c1 : w'.cell? ⟨B8, 1, none⟩ = some (.int .i64 (a 1)) := hE.cellv (hb8.out.cell 1)
                have c2 : w'.cell? ⟨B8, 2, none⟩ = some (.int .i64 (a 2)) := hE.cellv (hb8.out.cell 2)
                have c3 : w'.cell? ⟨B8, 3, none⟩ = some (.int .i64 (a 3)) := hE.cellv (hb8.out.cell 3)
                have c4 : w'.cell? ⟨B8, 4, none⟩ = some (.int .i64 (a 4)) := hE.cellv (hb8.out.cell 4)
                have c5 : w'.cell? ⟨B8, 5, none⟩ = some (.int .i64 (a 5)) := hE.cellv (hb8.out.cell 5)
                have c6 : w'.cell? ⟨B8, 6, none⟩ = some (.int .i64 (a 6)) := hE.cellv (hb8.out.cell 6)
                have c7 : w'.cell? ⟨B8, 7, none⟩ = some (.int .i64 (a 7)) := hE.cellv (hb8.out.cell 7)
                exact opStep_val (by simp [execOp, e8, c0, c1, c2, c3, c4, c5, c6, c7, go_sem]) rfl
              case s3 =>
                intro w' ev hE hk ha hc hf
                have e9 : ev (.tmp 9) = .pointer (some ⟨B9, 0, none⟩) := ha 9 (by decide)
                have c0 : w'.cell? ⟨B9, 0, none⟩ = some (.int .i64 (d 0)) := hE.cellv (hb9.out.cell 0)
                have c1 : w'.cell? ⟨B9, 1, none⟩ = some (.int .i64 (d 1)) := hE.cellv (hb9.out.cell 1)
                have c2 : w'.cell? ⟨B9, 2, none⟩ = some (.int .i64 (d 2)) := hE.cellv (hb9.out.cell 2)
                have c3 : w'.cell? ⟨B9, 3, none⟩ = some (.int .i64 (d 3)) := hE.cellv (hb9.out.cell 3)
                have c4 : w'.cell? ⟨B9, 4, none⟩ = some (.int .i64 (d 4)) := hE.cellv (hb9.out.cell 4)
                have c5 : w'.cell? ⟨B9, 5, none⟩ = some (.int .i64 (d 5)) := hE.cellv (hb9.out.cell 5)
                have c6 : w'.cell? ⟨B9, 6, none⟩ = some (.int .i64 (d 6)) := hE.cellv (hb9.out.cell 6)
                have c7 : w'.cell? ⟨B9, 7, none⟩ = some (.int .i64 (d 7)) := hE.cellv (hb9.out.cell 7)
                exact opStep_val (by simp [execOp, e9, c0, c1, c2, c3, c4, c5, c6, c7, go_sem]) rfl
              case s4 =>
                intro w' ev hE hk ha hc hf
                have f60 := hk.1 _ rfl
                have e61 : ev (.tmp 61) = .agg #[.int .i64 (a 0), .int .i64 (a 1), .int .i64 (a 2), .int .i64 (a 3), .int .i64 (a 4), .int .i64 (a 5), .int .i64 (a 6), .int .i64 (a 7)] := hk.2.1 _ rfl
                have e62 : ev (.tmp 62) = .agg #[.int .i64 (d 0), .int .i64 (d 1), .int .i64 (d 2), .int .i64 (d 3), .int .i64 (d 4), .int .i64 (d 5), .int .i64 (d 6), .int .i64 (d 7)] := hk.2.2.1 _ rfl
                refine opStep_call (by simp [execOp, resolve, invoke, hf, e61, e62, go_sem]) (oCmp_any _ (onesOf m :: revRows) a d _ f60 hER.out ha6.out hd6.out) ?_
                rintro e w1 ⟨rfl, hE1⟩
                exact ⟨_, rfl, hE1, by rw [hcE.out]⟩
              case s5 =>
                intro w' ev hE hk ha hc hf
                have e63 : ev (.tmp 63) = .int .i64 1 := hk.1 _ rfl
                exact opStep_val (by simp [execOp, e63, hc, go_sem]) rfl
              case s6 =>
                intro w' ev hE hk ha hc hf
                have e64 : ev (.tmp 64) = .bool true := hk.1 _ rfl
                exact opStep_val (by simp [execOp, e64, go_sem]) rfl
              case s7 =>
                intro w' ev hE hk ha hc hf
                intro gv hg
                have hgv := hg _ rfl
                refine ⟨fun hgt => ?_, fun hgf => ?_⟩
                · skip
                  have e7 : ev (.tmp 7) = .bool true := ha 7 (by decide)
                  exact opStep_val (by simp [execOp, e7, go_sem]) rfl
                · exact absurd hgv hgf
              case s8 =>
                intro w' ev hE hk ha hc hf
                have e65 : ev (.tmp 65) = .bool true := hk.1 _ rfl
                have e66 : ev (.tmp 66) = .bool true := hk.2.1 _ rfl
                exact opStep_val (by simp [execOp, e65, e66, hc, go_sem]) rfl
            case fin =>
              intro g w' hE hF
              have e8 := hF 8 _ rfl
              simp only [List.length_cons, List.length_nil, Nat.reduceAdd, List.drop_succ_cons, List.drop_zero, List.take_succ_cons, List.take_zero, putG, Act.put, List.setIfInBounds_toArray, List.set_cons_succ, List.set_cons_zero, e8]
              go_wp2
              go_ret
              exact ⟨rfl, hEw.out.trans ((Ext.refl _).drew.trans hE)⟩

          · rw [elimB_false he]
            replace he := hide he
            clear hcR
            go_upto_region 17 with (fail)
            refine wp_region_v (by kernel_rfl) [[], [(59, 0)], [], [], [(60, 1), (61, 2), (62, 3)], [(63, 4)], [(64, 5)], [], [(65, 6), (66, 7)]] [[], [0], [], [], [0, 1, 2, 3], [0, 1, 2, 3, 4], [0, 1, 2, 3, 4, 5], [0, 1, 2, 3, 4, 5, 6], [0, 1, 2, 3, 4, 5, 6, 7]]
              [fun v _ => v = .int .u8 (m : Int), fun v w' => RowsAt .i64 34 w' v (onesOf m :: revRows), fun v _ => v = .agg #[.int .i64 (a 0), .int .i64 (a 1), .int .i64 (a 2), .int .i64 (a 3), .int .i64 (a 4), .int .i64 (a 5), .int .i64 (a 6), .int .i64 (a 7)], fun v _ => v = .agg #[.int .i64 (d 0), .int .i64 (d 1), .int .i64 (d 2), .int .i64 (d 3), .int .i64 (d 4), .int .i64 (d 5), .int .i64 (d 6), .int .i64 (d 7)], fun v _ => v = .int .i64 1, fun v _ => v = .bool true, fun v _ => v = .bool true, fun v _ => v = .bool true, fun v _ => v = .bool true]
              rfl (by kernel_rfl) (by kernel_rfl) ?stab ?steps ?fin
            case stab => exact .cons (Stab.eq _) (.cons (fun _ _ _ he h => h.ext he) (.cons (Stab.eq _) (.cons (Stab.eq _) (.cons (Stab.eq _) (.cons (Stab.eq _) (.cons (Stab.eq _) (.cons (Stab.eq _) (.cons (Stab.eq _) .nil))))))))
            case steps =>
              refine .cons ?s0 (.cons ?s1 (.cons ?s2 (.cons ?s3 (.cons ?s4 (.cons ?s5 (.cons ?s6 (.cons ?s7 (.cons ?s8 .nil))))))))
              case s0 =>
                intro w' ev hE hk ha hc hf
                have e1 : ev (.tmp 1) = .int .u8 (m : Int) := ha 1 (by decide)
                exact opStep_val (by simp [execOp, e1, go_sem]) rfl
              case s1 =>
                intro w' ev hE hk ha hc hf
                have e59 : ev (.tmp 59) = .int .u8 (m : Int) := hk.1 _ rfl
                refine opStep_call (by simp [execOp, resolve, invoke, hf, e59, go_sem]) (Eliminating_any m _ hm) ?_
                rintro e w1 ⟨A, c, rfl, hO, hE1⟩
                exact ⟨_, rfl, hE1, hO.rows⟩
              case s2 =>
                intro w' ev hE hk ha hc hf
                have e8 : ev (.tmp 8) = .pointer (some ⟨B8, 0, none⟩) := ha 8 (by decide)
                have c0 : w'.cell? ⟨B8, 0, none⟩ = some (.int .i64 (a 0)) := hE.cellv (hb8.out.cell 0)
                have c1 : w'.cell? ⟨B8, 1, none⟩ = some (.int .i64 (a 1)) := hE.cellv (hb8.out.cell 1)
                have c2 : w'.cell? ⟨B8, 2, none⟩ = some (.int .i64 (a 2)) := hE.cellv (hb8.out.cell 2)
                have c3 : w'.cell? ⟨B8, 3, none⟩ = some (.int .i64 (a 3)) := hE.cellv (hb8.out.cell 3)
                have c4 : w'.cell? ⟨B8, 4, none⟩ = some (.int .i64 (a 4)) := hE.cellv (hb8.out.cell 4)
                have c5 : w'.cell? ⟨B8, 5, none⟩ = some (.int .i64 (a 5)) := hE.cellv (hb8.out.cell 5)
                have c6 : w'.cell? ⟨B8, 6, none⟩ = some (.int .i64 (a 6)) := hE.cellv (hb8.out.cell 6)
                have c7 : w'.cell? ⟨B8, 7, none⟩ = some (.int .i64 (a 7)) := hE.cellv (hb8.out.cell 7)
                exact opStep_val (by simp [execOp, e8, c0, c1, c2, c3, c4, c5, c6, c7, go_sem]) rfl
              case s3 =>
                intro w' ev hE hk ha hc hf
                have e9 : ev (.tmp 9) = .pointer (some ⟨B9, 0, none⟩) := ha 9 (by decide)
                have c0 : w'.cell? ⟨B9, 0, none⟩ = some (.int .i64 (d 0)) := hE.cellv (hb9.out.cell 0)
                have c1 : w'.cell? ⟨B9, 1, none⟩ = some (.int .i64 (d 1)) := hE.cellv (hb9.out.cell 1)
                have c2 : w'.cell? ⟨B9, 2, none⟩ = some (.int .i64 (d 2)) := hE.cellv (hb9.out.cell 2)
                have c3 : w'.cell? ⟨B9, 3, none⟩ = some (.int .i64 (d 3)) := hE.cellv (hb9.out.cell 3)
                have c4 : w'.cell? ⟨B9, 4, none⟩ = some (.int .i64 (d 4)) := hE.cellv (hb9.out.cell 4)
                have c5 : w'.cell? ⟨B9, 5, none⟩ = some (.int .i64 (d 5)) := hE.cellv (hb9.out.cell 5)
                have c6 : w'.cell? ⟨B9, 6, none⟩ = some (.int .i64 (d 6)) := hE.cellv (hb9.out.cell 6)
                have c7 : w'.cell? ⟨B9, 7, none⟩ = some (.int .i64 (d 7)) := hE.cellv (hb9.out.cell 7)
                exact opStep_val (by simp [execOp, e9, c0, c1, c2, c3, c4, c5, c6, c7, go_sem]) rfl
              case s4 =>
                intro w' ev hE hk ha hc hf
                have f60 := hk.1 _ rfl
                have e61 : ev (.tmp 61) = .agg #[.int .i64 (a 0), .int .i64 (a 1), .int .i64 (a 2), .int .i64 (a 3), .int .i64 (a 4), .int .i64 (a 5), .int .i64 (a 6), .int .i64 (a 7)] := hk.2.1 _ rfl
                have e62 : ev (.tmp 62) = .agg #[.int .i64 (d 0), .int .i64 (d 1), .int .i64 (d 2), .int .i64 (d 3), .int .i64 (d 4), .int .i64 (d 5), .int .i64 (d 6), .int .i64 (d 7)] := hk.2.2.1 _ rfl
                refine opStep_call (by simp [execOp, resolve, invoke, hf, e61, e62, go_sem]) (oCmp_any _ (onesOf m :: revRows) a d _ f60 hER.out ha6.out hd6.out) ?_
                rintro e w1 ⟨rfl, hE1⟩
                exact ⟨_, rfl, hE1, by rw [hcE.out]⟩
              case s5 =>
                intro w' ev hE hk ha hc hf
                have e63 : ev (.tmp 63) = .int .i64 1 := hk.1 _ rfl
                exact opStep_val (by simp [execOp, e63, hc, go_sem]) rfl
              case s6 =>
                intro w' ev hE hk ha hc hf
                have e64 : ev (.tmp 64) = .bool true := hk.1 _ rfl
                exact opStep_val (by simp [execOp, e64, go_sem]) rfl
              case s7 =>
                intro w' ev hE hk ha hc hf
                intro gv hg
                have hgv := hg _ rfl
                refine ⟨fun hgt => ?_, fun hgf => ?_⟩
                · skip
                  have e7 : ev (.tmp 7) = .bool true := ha 7 (by decide)
                  exact opStep_val (by simp [execOp, e7, go_sem]) rfl
                · exact absurd hgv hgf
              case s8 =>
                intro w' ev hE hk ha hc hf
                have e65 : ev (.tmp 65) = .bool true := hk.1 _ rfl
                have e66 : ev (.tmp 66) = .bool true := hk.2.1 _ rfl
                exact opStep_val (by simp [execOp, e65, e66, hc, go_sem]) rfl
            case fin =>
              intro g w' hE hF
              have e8 := hF 8 _ rfl
              simp only [List.length_cons, List.length_nil, Nat.reduceAdd, List.drop_succ_cons, List.drop_zero, List.take_succ_cons, List.take_zero, putG, Act.put, List.setIfInBounds_toArray, List.set_cons_succ, List.set_cons_zero, e8]
              go_wp2
              go_ret
              exact ⟨rfl, hEw.out.trans ((Ext.refl _).drew.trans hE)⟩


end Go.Proofs.Yteefhmdameeoaaa
