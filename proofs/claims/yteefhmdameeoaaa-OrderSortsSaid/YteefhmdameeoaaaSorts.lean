/-
  The law OrderSorts returns true for every input: the result of Sort is strictly decreasing, contains the monomials of the list and no others, and sorting it again changes nothing.
-/
import Derived.Test.YteefhmdameeoaaaP8
import Derived.Test.YteefhmdameeoaaaLaw2
import Derived.Test.YteefhmdameeoaaaBridge
set_option linter.unusedSimpArgs false
set_option linter.unusedVariables false
namespace Go.Proofs.Yteefhmdameeoaaa
open Go.ChangeShapes Go.WideShapes Go.ChangeAt Go.RowKit Go.Deep

theorem grows_ge {f : Nat → Nat} {n : Nat} (h : ∀ i j, i < j → j < n → f i < f j) : ∀ i, i < n → i ≤ f i
  | 0, _ => Nat.zero_le _
  | i + 1, hi => by have := grows_ge h i (by omega); have := h i (i + 1) (by omega) hi; omega
theorem grows_le {f : Nat → Nat} {n m : Nat} (h : ∀ i j, i < j → j < n → f i < f j) (hm : ∀ i, i < n → f i < m) : ∀ d, d < n → f (n - 1 - d) + d < m
  | 0, hd => by have := hm (n - 1) (by omega); simpa using this
  | d + 1, hd => by
    have := grows_le h hm d (by omega)
    have := h (n - 1 - (d + 1)) (n - 1 - d) (by omega) (by omega)
    omega
/-- Strictly decreasing lists with the same elements are equal. -/
theorem dec_unique {R S T : List (Nat → Int)} (hS : ∀ i j, i < j → j < S.length → 0 < oCmp R (rowAt S i) (rowAt S j)) (hT : ∀ i j, i < j → j < T.length → 0 < oCmp R (rowAt T i) (rowAt T j)) (h1 : ∀ a ∈ S, ∃ b ∈ T, Eqv a b) (h2 : ∀ b ∈ T, ∃ a ∈ S, Eqv a b) : S.length = T.length ∧ ∀ i, i < S.length → Eqv (rowAt S i) (rowAt T i) := by
  have idx : ∀ (A B : List (Nat → Int)), (∀ i j, i < j → j < A.length → 0 < oCmp R (rowAt A i) (rowAt A j)) → (∀ i j, i < j → j < B.length → 0 < oCmp R (rowAt B i) (rowAt B j)) → (∀ a ∈ A, ∃ b ∈ B, Eqv a b) → ∃ f : Nat → Nat, (∀ i, i < A.length → f i < B.length ∧ Eqv (rowAt A i) (rowAt B (f i))) ∧ ∀ i j, i < j → j < A.length → f i < f j := fun A B hA hB hab => by
    have key : ∀ i, ∃ k, i < A.length → k < B.length ∧ Eqv (rowAt A i) (rowAt B k) := fun i => by
      by_cases hi : i < A.length
      · obtain ⟨b, hb, he⟩ := hab _ (rowAt_mem hi)
        obtain ⟨k, hk, rfl⟩ := List.mem_iff_getElem.1 hb
        have e : rowAt B k = B[k] := by simp [rowAt, List.getD_eq_getElem?_getD, List.getElem?_eq_getElem hk]
        exact ⟨k, fun _ => ⟨hk, by rw [e]; exact he⟩⟩
      · exact ⟨0, fun h => absurd h hi⟩
    refine ⟨fun i => (key i).choose, fun i hi => (key i).choose_spec hi, fun i j hij hj => ?_⟩
    obtain ⟨a1, a2⟩ := (key i).choose_spec (by omega)
    obtain ⟨b1, b2⟩ := (key j).choose_spec hj
    have hd := hA i j hij hj
    rw [oCmp_congr a2 b2] at hd
    rcases Nat.lt_trichotomy (key i).choose (key j).choose with h | h | h
    · exact h
    · rw [h, oCmp_eq (fun _ _ => rfl)] at hd; omega
    · have := hB _ _ h a1
      rw [oCmp_neg] at this
      omega
  obtain ⟨f, f1, f2⟩ := idx S T hS hT h1
  obtain ⟨f', g1, g2⟩ := idx T S hT hS (fun b hb => by obtain ⟨a, ha, he⟩ := h2 b hb; exact ⟨a, ha, he.symm⟩)
  have l1 : S.length ≤ T.length := by
    rcases Nat.eq_zero_or_pos S.length with h | h
    · omega
    · have := grows_ge f2 (S.length - 1) (by omega); have := (f1 (S.length - 1) (by omega)).1; omega
  have l2 : T.length ≤ S.length := by
    rcases Nat.eq_zero_or_pos T.length with h | h
    · omega
    · have := grows_ge g2 (T.length - 1) (by omega); have := (g1 (T.length - 1) (by omega)).1; omega
  refine ⟨by omega, fun i hi => ?_⟩
  have e : f i = i := by
    have h3 := grows_ge f2 i hi
    have h4 := grows_le f2 (fun i hi => (f1 i hi).1) (S.length - 1 - i) (by omega)
    rw [show S.length - 1 - (S.length - 1 - i) = i by omega] at h4
    omega
  have := (f1 i hi).2
  rwa [e] at this
theorem alike_of {R S T : List (Nat → Int)} (h : SortOf R S T) (hS : ∀ i j, i < j → j < S.length → 0 < oCmp R (rowAt S i) (rowAt S j)) : alikeB T S = true := by
  obtain ⟨h1, h2⟩ := dec_unique h.dec hS h.sub h.sup
  simp only [alikeB, alikeTo, h1, decide_true, Bool.true_and, List.all_eq_true, List.mem_range]
  intro i hi
  exact eqB_true.2 (h2 (0 + i) (by omega))
theorem has_of {R : List (Nat → Int)} {a : Nat → Int} (h : ∃ b ∈ R, Eqv b a) : hasTo R a 0 = true := by
  obtain ⟨b, hb, he⟩ := h
  simp only [hasTo, List.drop_zero, List.any_eq_true]
  exact ⟨b, hb, eqB_true.2 he⟩
theorem monosOf_in {L : List (Nat → Int)} (hL : ∀ r ∈ L, In8 r 0 65535) (k : Nat) : ∀ r ∈ monosOf L k, In8 r 0 19999 := fun r h => by
  obtain ⟨x, hx, rfl⟩ := List.mem_map.1 h
  exact monoOf_in (hL x (List.mem_of_mem_take hx))
theorem In8.eqv {a b : Nat → Int} {lo hi : Int} (h : In8 b lo hi) (he : Eqv a b) : In8 a lo hi := fun i hi => by rw [he i hi]; exact h i hi
set_option maxRecDepth 100000 in
set_option maxHeartbeats 3200000 in
theorem sorts_walk (v u : Value) (X L : List (Nat → Int)) (w : World) (hv : RowsIn .i8 w v X) (hX : ∀ r ∈ X, In8 r (-128) 127) (hu : RowsIn .u16 w u L) (hL : ∀ r ∈ L, In8 r 0 65535) :
    Calls Try.prog 3 #[.agg #[v], u] w fun e w' => e = .returned (.bool true) ∧ Ext w w' := by
  obtain ⟨A0, c0, rfl, k0⟩ := id hv
  clear k0
  have hR : Hid (∀ r ∈ madeRows X, In8 r (-1000) 1000) := fun r h => (madeRows_in hX r h).mono (by omega) (by omega)
  have hMb : Hid (∀ r ∈ monosOf L (min L.length 8), In8 r (-1000000) 1000000) := fun r h => (monosOf_in hL _ r h).mono (by omega) (by omega)
  have hMl : (monosOf L (min L.length 8)).length ≤ 8 := by rw [monosOf_length (by omega)]; omega
  have hbx : Hid (Blk (w.alloc (.cells #[.slice A0 X.length c0] 24)) w.heap.size 24 #[.slice A0 X.length c0]) := Blk.new _ _ _
  have hE0 : Hid (Ext w (w.alloc (.cells #[.slice A0 X.length c0] 24))) := (Ext.refl w).alloc _
  replace hv := hide hv
  replace hu := hide hu
  replace hX := hide hX
  replace hL := hide hL
  go_enter Try.func3, Try.ntmps3
  go_wp2_with fail
  generalize (w.alloc (.cells #[.slice A0 X.length c0] 24)) = wa at *
  refine (examples_any _).mono ?_
  rintro e w1 ⟨rfl, hE1⟩
  have hx0 : w1.cell? ⟨w.heap.size, 0, none⟩ = some (.slice A0 X.length c0) := (hbx.out.ext hE1).cell 0
  have hE2 := hide (hE0.out.trans hE1)
  clear hE1 hbx hE0
  have hv1 := hide (hv.out.ext hE2.out)
  go_wp2_with fail
  refine (Made_any _ X _ hv1.out hX.out).mono ?_
  rintro e w2 ⟨A, c, rfl, hO, hE3⟩
  have hE4 := hide (hE2.out.trans hE3)
  have hu1 := hide (hu.out.ext hE4.out)
  replace hO := hide hO.rows
  clear hx0 hE3 hE2 hv1
  go_wp2_with fail
  refine (monos_any u L _ hu1.out hL.out).mono ?_
  rintro e w3 ⟨A1, c1, rfl, hM, hE5⟩
  have hE6 := hide (hE4.out.trans hE5)
  replace hO := hide (hO.out.ext hE5)
  replace hM := hide hM.rows
  clear hE5 hE4 hu1 hv hu hX hL
  generalize madeRows X = R at *
  generalize monosOf L (min L.length 8) = M at *
  go_wp2_with fail
  refine (Sort_any _ _ R M _ hO.out hR.out hM.out hMb.out (by omega)).mono ?_
  rintro e w4 ⟨S, hS, A2, c2, rfl, hSo, hE7⟩
  have hE8 := hide (hE6.out.trans hE7)
  replace hO := hide (hO.out.ext hE7)
  replace hM := hide (hM.out.ext hE7)
  replace hSo := hide hSo.rows
  have hSl : S.length ≤ 8 := Nat.le_trans hS.len hMl
  replace hS := hide hS
  have hSb : Hid (∀ r ∈ S, In8 r (-1000000) 1000000) := fun r hr => by obtain ⟨b, hb, he⟩ := hS.out.sub r hr; exact (hMb.out b hb).eqv he
  clear hE7 hE6
  go_wp2
  go_loopw [9] (fun s wr => ∃ k : Nat, k ≤ S.length ∧ s = .int .i64 k ∧ Hid (Ext w4 wr)) (fun s _ => S.length - (intOf s).toNat)
  case atStart => exact ⟨0, by omega, rfl, Ext.refl _⟩
  case round =>
    obtain ⟨k, hk, rfl, hI⟩ := hrel
    by_cases hlt : k < S.length
    · obtain ⟨A', c', hv', hc', hm', hx'⟩ := hSo.out.open_
      cases hv'
      obtain ⟨g, o, rfl, hgl, hcl⟩ := hx' (by omega)
      have hhas : Hid (hasTo M (rowAt S k) 0 = true) := has_of (by obtain ⟨b, hb, he⟩ := hS.out.sub _ (rowAt_mem hlt); exact ⟨b, hb, he.symm⟩)
      have haB := hide (hSb.out _ (rowAt_mem hlt))
      have hd1 : decide (k < S.length) = true := by simpa using hlt
      replace hM := hide (hM.out.ext hI.out)
      replace hO := hide (hO.out.ext hI.out)
      have x0 : Hid (wr.cell? ⟨g, o + k * 8, none⟩ = some (.int .i64 (rowAt S k 0))) := hI.out.cellv (hcl k 0 hlt (by omega))
      have x1 : Hid (wr.cell? ⟨g, o + k * 8 + 1, none⟩ = some (.int .i64 (rowAt S k 1))) := hI.out.cellv (hcl k 1 hlt (by omega))
      have x2 : Hid (wr.cell? ⟨g, o + k * 8 + 2, none⟩ = some (.int .i64 (rowAt S k 2))) := hI.out.cellv (hcl k 2 hlt (by omega))
      have x3 : Hid (wr.cell? ⟨g, o + k * 8 + 3, none⟩ = some (.int .i64 (rowAt S k 3))) := hI.out.cellv (hcl k 3 hlt (by omega))
      have x4 : Hid (wr.cell? ⟨g, o + k * 8 + 4, none⟩ = some (.int .i64 (rowAt S k 4))) := hI.out.cellv (hcl k 4 hlt (by omega))
      have x5 : Hid (wr.cell? ⟨g, o + k * 8 + 5, none⟩ = some (.int .i64 (rowAt S k 5))) := hI.out.cellv (hcl k 5 hlt (by omega))
      have x6 : Hid (wr.cell? ⟨g, o + k * 8 + 6, none⟩ = some (.int .i64 (rowAt S k 6))) := hI.out.cellv (hcl k 6 hlt (by omega))
      have x7 : Hid (wr.cell? ⟨g, o + k * 8 + 7, none⟩ = some (.int .i64 (rowAt S k 7))) := hI.out.cellv (hcl k 7 hlt (by omega))
      by_cases hk0 : k = 0
      · clear hcl hx' hc' hm'
        generalize rowAt S k = a at *
        replace hk0 := hide hk0
        go_upto_region 9 with (fail)
        have i0 : k = 0 := hk0.out
        have i1 : (k : Int) < S.length := by omega
        refine wp_region_v (by kernel_rfl) [[], [], [], [(28, 1), (29, 2)], [(30, 3)], [(27, 0), (31, 4)], [(32, 5)], [(33, 6)], [], [(35, 8)], [(36, 9)], [], [], [], [(40, 13)], [(39, 12), (41, 14)], [(42, 15)], [], [], [(44, 17), (45, 18)], [(46, 19)], [(38, 11), (43, 16), (47, 20)], [(48, 21)], [(37, 10), (49, 22)], [(34, 7), (50, 23)]] [[], [], [], [1, 2], [1, 2, 3], [0, 1, 2, 3, 4], [0, 1, 2, 3, 4, 5], [0, 1, 2, 3, 4, 5, 6], [0, 1, 2, 3, 4, 5, 6, 7], [0, 1, 2, 3, 4, 5, 6, 7, 8], [0, 1, 2, 3, 4, 5, 6, 7, 8, 9], [0, 1, 2, 3, 4, 5, 6, 7, 8, 9, 10], [0, 1, 2, 3, 4, 5, 6, 7, 8, 9, 10], [0, 1, 2, 3, 4, 5, 6, 7, 8, 9, 10], [0, 1, 2, 3, 4, 5, 6, 7, 8, 9, 10, 13], [0, 1, 2, 3, 4, 5, 6, 7, 8, 9, 10, 12, 13, 14], [0, 1, 2, 3, 4, 5, 6, 7, 8, 9, 10, 12, 13, 14, 15], [0, 1, 2, 3, 4, 5, 6, 7, 8, 9, 10], [0, 1, 2, 3, 4, 5, 6, 7, 8, 9, 10], [0, 1, 2, 3, 4, 5, 6, 7, 8, 9, 10, 17, 18], [0, 1, 2, 3, 4, 5, 6, 7, 8, 9, 10, 17, 18, 19], [0, 1, 2, 3, 4, 5, 6, 7, 8, 9, 10, 11, 12, 13, 14, 15, 16, 17, 18, 19, 20], [0, 1, 2, 3, 4, 5, 6, 7, 8, 9, 10, 11, 12, 13, 14, 15, 16, 17, 18, 19, 20, 21], [0, 1, 2, 3, 4, 5, 6, 7, 8, 9, 10, 11, 12, 13, 14, 15, 16, 17, 18, 19, 20, 21, 22], [0, 1, 2, 3, 4, 5, 6, 7, 8, 9, 10, 11, 12, 13, 14, 15, 16, 17, 18, 19, 20, 21, 22, 23]]
          [fun v _ => v = .slice A1 M.length c1, fun v _ => v = .slice (some ⟨g, o, none⟩) S.length c2, fun v _ => v = .int .i64 (k : Int), fun v _ => v = .pointer (some ⟨g, o + k * 8, none⟩), fun v _ => v = .agg #[.int .i64 (a 0), .int .i64 (a 1), .int .i64 (a 2), .int .i64 (a 3), .int .i64 (a 4), .int .i64 (a 5), .int .i64 (a 6), .int .i64 (a 7)], fun v _ => v = .bool true, fun v _ => v = .bool false, fun v _ => v = .bool false, fun v _ => v = .int .i64 (k : Int), fun v _ => v = .bool false, fun v _ => v = .bool false, fun v _ => v = undef, fun v _ => v = undef, fun v _ => v = undef, fun v _ => v = undef, fun v _ => v = undef, fun v _ => v = undef, fun v _ => v = undef, fun v _ => v = undef, fun v _ => v = undef, fun v _ => v = undef, fun v _ => v = undef, fun v _ => v = undef, fun v _ => v = .bool false, fun v _ => v = .bool false]
          rfl (by kernel_rfl) (by kernel_rfl) ?stab ?steps ?fin
        case stab => exact .cons (Stab.eq _) (.cons (Stab.eq _) (.cons (Stab.eq _) (.cons (Stab.eq _) (.cons (Stab.eq _) (.cons (Stab.eq _) (.cons (Stab.eq _) (.cons (Stab.eq _) (.cons (Stab.eq _) (.cons (Stab.eq _) (.cons (Stab.eq _) (.cons (Stab.eq _) (.cons (Stab.eq _) (.cons (Stab.eq _) (.cons (Stab.eq _) (.cons (Stab.eq _) (.cons (Stab.eq _) (.cons (Stab.eq _) (.cons (Stab.eq _) (.cons (Stab.eq _) (.cons (Stab.eq _) (.cons (Stab.eq _) (.cons (Stab.eq _) (.cons (Stab.eq _) (.cons (Stab.eq _) .nil))))))))))))))))))))))))
        case steps =>
          refine .cons ?s0 (.cons ?s1 (.cons ?s2 (.cons ?s3 (.cons ?s4 (.cons ?s5 (.cons ?s6 (.cons ?s7 (.cons ?s8 (.cons ?s9 (.cons ?s10 (.cons ?s11 (.cons ?s12 (.cons ?s13 (.cons ?s14 (.cons ?s15 (.cons ?s16 (.cons ?s17 (.cons ?s18 (.cons ?s19 (.cons ?s20 (.cons ?s21 (.cons ?s22 (.cons ?s23 (.cons ?s24 .nil))))))))))))))))))))))))
          case s0 =>
            intro w' ev hE hk ha hc hf
            have e7 : ev (.tmp 7) = .slice A1 M.length c1 := ha 7 (by decide)
            exact opStep_val (by simp [execOp, e7, go_sem]) rfl
          case s1 =>
            intro w' ev hE hk ha hc hf
            have e8 : ev (.tmp 8) = .slice (some ⟨g, o, none⟩) S.length c2 := ha 8 (by decide)
            exact opStep_val (by simp [execOp, e8, go_sem]) rfl
          case s2 =>
            intro w' ev hE hk ha hc hf
            have e9 : ev (.tmp 9) = .int .i64 (k : Int) := ha 9 (by decide)
            exact opStep_val (by simp [execOp, e9, go_sem]) rfl
          case s3 =>
            intro w' ev hE hk ha hc hf
            have e28 : ev (.tmp 28) = .slice (some ⟨g, o, none⟩) S.length c2 := hk.1 _ rfl
            have e29 : ev (.tmp 29) = .int .i64 (k : Int) := hk.2.1 _ rfl
            exact opStep_val (by simp [execOp, e28, e29, i1, go_sem]) rfl
          case s4 =>
            intro w' ev hE hk ha hc hf
            have e30 : ev (.tmp 30) = .pointer (some ⟨g, o + k * 8, none⟩) := hk.1 _ rfl
            have c0 : w'.cell? ⟨g, o + k * 8, none⟩ = some (.int .i64 (a 0)) := hE.cellv x0.out
            have c1 : w'.cell? ⟨g, o + k * 8 + 1, none⟩ = some (.int .i64 (a 1)) := hE.cellv x1.out
            have c2 : w'.cell? ⟨g, o + k * 8 + 2, none⟩ = some (.int .i64 (a 2)) := hE.cellv x2.out
            have c3 : w'.cell? ⟨g, o + k * 8 + 3, none⟩ = some (.int .i64 (a 3)) := hE.cellv x3.out
            have c4 : w'.cell? ⟨g, o + k * 8 + 4, none⟩ = some (.int .i64 (a 4)) := hE.cellv x4.out
            have c5 : w'.cell? ⟨g, o + k * 8 + 5, none⟩ = some (.int .i64 (a 5)) := hE.cellv x5.out
            have c6 : w'.cell? ⟨g, o + k * 8 + 6, none⟩ = some (.int .i64 (a 6)) := hE.cellv x6.out
            have c7 : w'.cell? ⟨g, o + k * 8 + 7, none⟩ = some (.int .i64 (a 7)) := hE.cellv x7.out
            exact opStep_val (by simp [execOp, e30, c0, c1, c2, c3, c4, c5, c6, c7, go_sem]) rfl
          case s5 =>
            intro w' ev hE hk ha hc hf
            have e27 : ev (.tmp 27) = .slice A1 M.length c1 := hk.1 _ rfl
            have e31 : ev (.tmp 31) = .agg #[.int .i64 (a 0), .int .i64 (a 1), .int .i64 (a 2), .int .i64 (a 3), .int .i64 (a 4), .int .i64 (a 5), .int .i64 (a 6), .int .i64 (a 7)] := hk.2.1 _ rfl
            refine opStep_call (by simp [execOp, resolve, invoke, hf, e27, e31, go_sem]) (has_any _ M a _ (hM.out.ext ((Ext.refl _).drew.trans hE))) ?_
            rintro e w1 ⟨rfl, hE1⟩
            exact ⟨_, rfl, hE1, by rw [hhas.out]⟩
          case s6 =>
            intro w' ev hE hk ha hc hf
            have e32 : ev (.tmp 32) = .bool true := hk.1 _ rfl
            exact opStep_val (by simp [execOp, e32, go_sem]) rfl
          case s7 =>
            intro w' ev hE hk ha hc hf
            have e33 : ev (.tmp 33) = .bool false := hk.1 _ rfl
            exact opStep_val (by simp [execOp, e33, go_sem]) rfl
          case s8 =>
            intro w' ev hE hk ha hc hf
            intro gv hg
            have hgv := hg _ rfl
            refine ⟨fun hgt => ?_, fun hgf => ?_⟩
            · skip
              have e9 : ev (.tmp 9) = .int .i64 (k : Int) := ha 9 (by decide)
              exact opStep_val (by simp [execOp, e9, go_sem]) rfl
            · exact absurd hgv hgf
          case s9 =>
            intro w' ev hE hk ha hc hf
            intro gv hg
            have hgv := hg _ rfl
            refine ⟨fun hgt => ?_, fun hgf => ?_⟩
            · skip
              have e35 : ev (.tmp 35) = .int .i64 (k : Int) := hk.1 _ rfl
              exact opStep_val (by simp [execOp, e35, hc, i0, go_sem]) rfl
            · exact absurd hgv hgf
          case s10 =>
            intro w' ev hE hk ha hc hf
            intro gv hg
            have hgv := hg _ rfl
            refine ⟨fun hgt => ?_, fun hgf => ?_⟩
            · skip
              have e36 : ev (.tmp 36) = .bool false := hk.1 _ rfl
              exact opStep_val (by simp [execOp, e36, go_sem]) rfl
            · exact absurd hgv hgf
          case s11 =>
            intro w' ev hE hk ha hc hf
            intro gv hg
            have hgv := hg _ rfl
            exact ⟨(fun hgt => by rw [hgv] at hgt; cases hgt), fun _ => rfl⟩
          case s12 =>
            intro w' ev hE hk ha hc hf
            intro gv hg
            have hgv := hg _ rfl
            exact ⟨(fun hgt => by rw [hgv] at hgt; cases hgt), fun _ => rfl⟩
          case s13 =>
            intro w' ev hE hk ha hc hf
            intro gv hg
            have hgv := hg _ rfl
            exact ⟨(fun hgt => by rw [hgv] at hgt; cases hgt), fun _ => rfl⟩
          case s14 =>
            intro w' ev hE hk ha hc hf
            intro gv hg
            have hgv := hg _ rfl
            exact ⟨(fun hgt => by rw [hgv] at hgt; cases hgt), fun _ => rfl⟩
          case s15 =>
            intro w' ev hE hk ha hc hf
            intro gv hg
            have hgv := hg _ rfl
            exact ⟨(fun hgt => by rw [hgv] at hgt; cases hgt), fun _ => rfl⟩
          case s16 =>
            intro w' ev hE hk ha hc hf
            intro gv hg
            have hgv := hg _ rfl
            exact ⟨(fun hgt => by rw [hgv] at hgt; cases hgt), fun _ => rfl⟩
          case s17 =>
            intro w' ev hE hk ha hc hf
            intro gv hg
            have hgv := hg _ rfl
            exact ⟨(fun hgt => by rw [hgv] at hgt; cases hgt), fun _ => rfl⟩
          case s18 =>
            intro w' ev hE hk ha hc hf
            intro gv hg
            have hgv := hg _ rfl
            exact ⟨(fun hgt => by rw [hgv] at hgt; cases hgt), fun _ => rfl⟩
          case s19 =>
            intro w' ev hE hk ha hc hf
            intro gv hg
            have hgv := hg _ rfl
            exact ⟨(fun hgt => by rw [hgv] at hgt; cases hgt), fun _ => rfl⟩
          case s20 =>
            intro w' ev hE hk ha hc hf
            intro gv hg
            have hgv := hg _ rfl
            exact ⟨(fun hgt => by rw [hgv] at hgt; cases hgt), fun _ => rfl⟩
          case s21 =>
            intro w' ev hE hk ha hc hf
            intro gv hg
            have hgv := hg _ rfl
            exact ⟨(fun hgt => by rw [hgv] at hgt; cases hgt), fun _ => rfl⟩
          case s22 =>
            intro w' ev hE hk ha hc hf
            intro gv hg
            have hgv := hg _ rfl
            exact ⟨(fun hgt => by rw [hgv] at hgt; cases hgt), fun _ => rfl⟩
          case s23 =>
            intro w' ev hE hk ha hc hf
            intro gv hg
            have hgv := hg _ rfl
            refine ⟨fun hgt => ?_, fun hgf => ?_⟩
            · skip
              have e37 : ev (.tmp 37) = .bool false := hk.1 _ rfl
              have e49 : ev (.tmp 49) = undef := hk.2.1 _ rfl
              exact opStep_val (by simp [execOp, e37, e49, hc, go_sem]) rfl
            · exact absurd hgv hgf
          case s24 =>
            intro w' ev hE hk ha hc hf
            have e34 : ev (.tmp 34) = .bool false := hk.1 _ rfl
            have e50 : ev (.tmp 50) = .bool false := hk.2.1 _ rfl
            exact opStep_val (by simp [execOp, e34, e50, hc, go_sem]) rfl
        case fin =>
          intro gf w' hE hF
          have e24 := hF 24 _ rfl
          simp only [List.length_cons, List.length_nil, Nat.reduceAdd, List.drop_succ_cons, List.drop_zero, List.take_succ_cons, List.take_zero, putG, Act.put, List.setIfInBounds_toArray, List.set_cons_succ, List.set_cons_zero, e24]
          replace hE := hide ((Ext.refl wr).drew.trans hE)
          clear hF e24 i0 i1
          go_wp2
          exact ⟨⟨k + 1, hlt, by simp, hI.out.trans hE.out⟩, by simp [intOf]; omega⟩
      · have hcmp : Hid (oCmp R (rowAt S (k - 1)) (rowAt S k) = 1) := hide (by
          have := hS.out.dec (k - 1) k (by omega) hlt
          rcases oCmp_val R (rowAt S (k - 1)) (rowAt S k) with h | h | h <;> omega)
        have hbB := hide (hSb.out _ (rowAt_mem (show k - 1 < S.length by omega)))
        have y0 : Hid (wr.cell? ⟨g, o + (k - 1) * 8, none⟩ = some (.int .i64 (rowAt S (k - 1) 0))) := hI.out.cellv (hcl (k - 1) 0 (by omega) (by omega))
        have y1 : Hid (wr.cell? ⟨g, o + (k - 1) * 8 + 1, none⟩ = some (.int .i64 (rowAt S (k - 1) 1))) := hI.out.cellv (hcl (k - 1) 1 (by omega) (by omega))
        have y2 : Hid (wr.cell? ⟨g, o + (k - 1) * 8 + 2, none⟩ = some (.int .i64 (rowAt S (k - 1) 2))) := hI.out.cellv (hcl (k - 1) 2 (by omega) (by omega))
        have y3 : Hid (wr.cell? ⟨g, o + (k - 1) * 8 + 3, none⟩ = some (.int .i64 (rowAt S (k - 1) 3))) := hI.out.cellv (hcl (k - 1) 3 (by omega) (by omega))
        have y4 : Hid (wr.cell? ⟨g, o + (k - 1) * 8 + 4, none⟩ = some (.int .i64 (rowAt S (k - 1) 4))) := hI.out.cellv (hcl (k - 1) 4 (by omega) (by omega))
        have y5 : Hid (wr.cell? ⟨g, o + (k - 1) * 8 + 5, none⟩ = some (.int .i64 (rowAt S (k - 1) 5))) := hI.out.cellv (hcl (k - 1) 5 (by omega) (by omega))
        have y6 : Hid (wr.cell? ⟨g, o + (k - 1) * 8 + 6, none⟩ = some (.int .i64 (rowAt S (k - 1) 6))) := hI.out.cellv (hcl (k - 1) 6 (by omega) (by omega))
        have y7 : Hid (wr.cell? ⟨g, o + (k - 1) * 8 + 7, none⟩ = some (.int .i64 (rowAt S (k - 1) 7))) := hI.out.cellv (hcl (k - 1) 7 (by omega) (by omega))
        clear hcl hx' hc' hm'
        generalize rowAt S k = a at *
        generalize rowAt S (k - 1) = b at *
        go_upto_region 9 with (fail)
        have i0 : 0 < k := by omega
        have i1 : (k : Int) < S.length := by omega
        have i2 : IntKind.i64.wrap ((k : Int) - 1) = (k : Int) - 1 := IntWalk.i64_in _ (by omega)
        have i3 : (1 : Int) ≤ (k : Int) := by omega
        have i4 : ((k : Int) - 1).toNat = k - 1 := by omega
        have i5 : (k : Int) - 1 < S.length := by omega
        refine wp_region_v (by kernel_rfl) [[], [], [], [(28, 1), (29, 2)], [(30, 3)], [(27, 0), (31, 4)], [(32, 5)], [(33, 6)], [], [(35, 8)], [(36, 9)], [], [], [], [(40, 13)], [(39, 12), (41, 14)], [(42, 15)], [], [], [(44, 17), (45, 18)], [(46, 19)], [(38, 11), (43, 16), (47, 20)], [(48, 21)], [(37, 10), (49, 22)], [(34, 7), (50, 23)]] [[], [], [], [1, 2], [1, 2, 3], [0, 1, 2, 3, 4], [0, 1, 2, 3, 4, 5], [0, 1, 2, 3, 4, 5, 6], [0, 1, 2, 3, 4, 5, 6, 7], [0, 1, 2, 3, 4, 5, 6, 7, 8], [0, 1, 2, 3, 4, 5, 6, 7, 8, 9], [0, 1, 2, 3, 4, 5, 6, 7, 8, 9, 10], [0, 1, 2, 3, 4, 5, 6, 7, 8, 9, 10], [0, 1, 2, 3, 4, 5, 6, 7, 8, 9, 10], [0, 1, 2, 3, 4, 5, 6, 7, 8, 9, 10, 13], [0, 1, 2, 3, 4, 5, 6, 7, 8, 9, 10, 12, 13, 14], [0, 1, 2, 3, 4, 5, 6, 7, 8, 9, 10, 12, 13, 14, 15], [0, 1, 2, 3, 4, 5, 6, 7, 8, 9, 10], [0, 1, 2, 3, 4, 5, 6, 7, 8, 9, 10], [0, 1, 2, 3, 4, 5, 6, 7, 8, 9, 10, 17, 18], [0, 1, 2, 3, 4, 5, 6, 7, 8, 9, 10, 17, 18, 19], [0, 1, 2, 3, 4, 5, 6, 7, 8, 9, 10, 11, 12, 13, 14, 15, 16, 17, 18, 19, 20], [0, 1, 2, 3, 4, 5, 6, 7, 8, 9, 10, 11, 12, 13, 14, 15, 16, 17, 18, 19, 20, 21], [0, 1, 2, 3, 4, 5, 6, 7, 8, 9, 10, 11, 12, 13, 14, 15, 16, 17, 18, 19, 20, 21, 22], [0, 1, 2, 3, 4, 5, 6, 7, 8, 9, 10, 11, 12, 13, 14, 15, 16, 17, 18, 19, 20, 21, 22, 23]]
          [fun v _ => v = .slice A1 M.length c1, fun v _ => v = .slice (some ⟨g, o, none⟩) S.length c2, fun v _ => v = .int .i64 (k : Int), fun v _ => v = .pointer (some ⟨g, o + k * 8, none⟩), fun v _ => v = .agg #[.int .i64 (a 0), .int .i64 (a 1), .int .i64 (a 2), .int .i64 (a 3), .int .i64 (a 4), .int .i64 (a 5), .int .i64 (a 6), .int .i64 (a 7)], fun v _ => v = .bool true, fun v _ => v = .bool false, fun v _ => v = .bool false, fun v _ => v = .int .i64 (k : Int), fun v _ => v = .bool true, fun v _ => v = .bool true, fun v _ => v = .slice A R.length c, fun v _ => v = .slice (some ⟨g, o, none⟩) S.length c2, fun v _ => v = .int .i64 (k : Int), fun v _ => v = .int .i64 ((k : Int) - 1), fun v _ => v = .pointer (some ⟨g, o + (k - 1) * 8, none⟩), fun v _ => v = .agg #[.int .i64 (b 0), .int .i64 (b 1), .int .i64 (b 2), .int .i64 (b 3), .int .i64 (b 4), .int .i64 (b 5), .int .i64 (b 6), .int .i64 (b 7)], fun v _ => v = .slice (some ⟨g, o, none⟩) S.length c2, fun v _ => v = .int .i64 (k : Int), fun v _ => v = .pointer (some ⟨g, o + k * 8, none⟩), fun v _ => v = .agg #[.int .i64 (a 0), .int .i64 (a 1), .int .i64 (a 2), .int .i64 (a 3), .int .i64 (a 4), .int .i64 (a 5), .int .i64 (a 6), .int .i64 (a 7)], fun v _ => v = .int .i64 1, fun v _ => v = .bool false, fun v _ => v = .bool false, fun v _ => v = .bool false]
          rfl (by kernel_rfl) (by kernel_rfl) ?stab ?steps ?fin
        case stab => exact .cons (Stab.eq _) (.cons (Stab.eq _) (.cons (Stab.eq _) (.cons (Stab.eq _) (.cons (Stab.eq _) (.cons (Stab.eq _) (.cons (Stab.eq _) (.cons (Stab.eq _) (.cons (Stab.eq _) (.cons (Stab.eq _) (.cons (Stab.eq _) (.cons (Stab.eq _) (.cons (Stab.eq _) (.cons (Stab.eq _) (.cons (Stab.eq _) (.cons (Stab.eq _) (.cons (Stab.eq _) (.cons (Stab.eq _) (.cons (Stab.eq _) (.cons (Stab.eq _) (.cons (Stab.eq _) (.cons (Stab.eq _) (.cons (Stab.eq _) (.cons (Stab.eq _) (.cons (Stab.eq _) .nil))))))))))))))))))))))))
        case steps =>
          refine .cons ?s0 (.cons ?s1 (.cons ?s2 (.cons ?s3 (.cons ?s4 (.cons ?s5 (.cons ?s6 (.cons ?s7 (.cons ?s8 (.cons ?s9 (.cons ?s10 (.cons ?s11 (.cons ?s12 (.cons ?s13 (.cons ?s14 (.cons ?s15 (.cons ?s16 (.cons ?s17 (.cons ?s18 (.cons ?s19 (.cons ?s20 (.cons ?s21 (.cons ?s22 (.cons ?s23 (.cons ?s24 .nil))))))))))))))))))))))))
          case s0 =>
            intro w' ev hE hk ha hc hf
            have e7 : ev (.tmp 7) = .slice A1 M.length c1 := ha 7 (by decide)
            exact opStep_val (by simp [execOp, e7, go_sem]) rfl
          case s1 =>
            intro w' ev hE hk ha hc hf
            have e8 : ev (.tmp 8) = .slice (some ⟨g, o, none⟩) S.length c2 := ha 8 (by decide)
            exact opStep_val (by simp [execOp, e8, go_sem]) rfl
          case s2 =>
            intro w' ev hE hk ha hc hf
            have e9 : ev (.tmp 9) = .int .i64 (k : Int) := ha 9 (by decide)
            exact opStep_val (by simp [execOp, e9, go_sem]) rfl
          case s3 =>
            intro w' ev hE hk ha hc hf
            have e28 : ev (.tmp 28) = .slice (some ⟨g, o, none⟩) S.length c2 := hk.1 _ rfl
            have e29 : ev (.tmp 29) = .int .i64 (k : Int) := hk.2.1 _ rfl
            exact opStep_val (by simp [execOp, e28, e29, i1, go_sem]) rfl
          case s4 =>
            intro w' ev hE hk ha hc hf
            have e30 : ev (.tmp 30) = .pointer (some ⟨g, o + k * 8, none⟩) := hk.1 _ rfl
            have c0 : w'.cell? ⟨g, o + k * 8, none⟩ = some (.int .i64 (a 0)) := hE.cellv x0.out
            have c1 : w'.cell? ⟨g, o + k * 8 + 1, none⟩ = some (.int .i64 (a 1)) := hE.cellv x1.out
            have c2 : w'.cell? ⟨g, o + k * 8 + 2, none⟩ = some (.int .i64 (a 2)) := hE.cellv x2.out
            have c3 : w'.cell? ⟨g, o + k * 8 + 3, none⟩ = some (.int .i64 (a 3)) := hE.cellv x3.out
            have c4 : w'.cell? ⟨g, o + k * 8 + 4, none⟩ = some (.int .i64 (a 4)) := hE.cellv x4.out
            have c5 : w'.cell? ⟨g, o + k * 8 + 5, none⟩ = some (.int .i64 (a 5)) := hE.cellv x5.out
            have c6 : w'.cell? ⟨g, o + k * 8 + 6, none⟩ = some (.int .i64 (a 6)) := hE.cellv x6.out
            have c7 : w'.cell? ⟨g, o + k * 8 + 7, none⟩ = some (.int .i64 (a 7)) := hE.cellv x7.out
            exact opStep_val (by simp [execOp, e30, c0, c1, c2, c3, c4, c5, c6, c7, go_sem]) rfl
          case s5 =>
            intro w' ev hE hk ha hc hf
            have e27 : ev (.tmp 27) = .slice A1 M.length c1 := hk.1 _ rfl
            have e31 : ev (.tmp 31) = .agg #[.int .i64 (a 0), .int .i64 (a 1), .int .i64 (a 2), .int .i64 (a 3), .int .i64 (a 4), .int .i64 (a 5), .int .i64 (a 6), .int .i64 (a 7)] := hk.2.1 _ rfl
            refine opStep_call (by simp [execOp, resolve, invoke, hf, e27, e31, go_sem]) (has_any _ M a _ (hM.out.ext ((Ext.refl _).drew.trans hE))) ?_
            rintro e w1 ⟨rfl, hE1⟩
            exact ⟨_, rfl, hE1, by rw [hhas.out]⟩
          case s6 =>
            intro w' ev hE hk ha hc hf
            have e32 : ev (.tmp 32) = .bool true := hk.1 _ rfl
            exact opStep_val (by simp [execOp, e32, go_sem]) rfl
          case s7 =>
            intro w' ev hE hk ha hc hf
            have e33 : ev (.tmp 33) = .bool false := hk.1 _ rfl
            exact opStep_val (by simp [execOp, e33, go_sem]) rfl
          case s8 =>
            intro w' ev hE hk ha hc hf
            intro gv hg
            have hgv := hg _ rfl
            refine ⟨fun hgt => ?_, fun hgf => ?_⟩
            · skip
              have e9 : ev (.tmp 9) = .int .i64 (k : Int) := ha 9 (by decide)
              exact opStep_val (by simp [execOp, e9, go_sem]) rfl
            · exact absurd hgv hgf
          case s9 =>
            intro w' ev hE hk ha hc hf
            intro gv hg
            have hgv := hg _ rfl
            refine ⟨fun hgt => ?_, fun hgf => ?_⟩
            · skip
              have e35 : ev (.tmp 35) = .int .i64 (k : Int) := hk.1 _ rfl
              exact opStep_val (by simp [execOp, e35, hc, i0, go_sem]) rfl
            · exact absurd hgv hgf
          case s10 =>
            intro w' ev hE hk ha hc hf
            intro gv hg
            have hgv := hg _ rfl
            refine ⟨fun hgt => ?_, fun hgf => ?_⟩
            · skip
              have e36 : ev (.tmp 36) = .bool true := hk.1 _ rfl
              exact opStep_val (by simp [execOp, e36, go_sem]) rfl
            · exact absurd hgv hgf
          case s11 =>
            intro w' ev hE hk ha hc hf
            intro gv hg
            have hgv := hg _ rfl
            refine ⟨fun hgt => ?_, fun hgf => ?_⟩
            · skip
              have e6 : ev (.tmp 6) = .slice A R.length c := ha 6 (by decide)
              exact opStep_val (by simp [execOp, e6, go_sem]) rfl
            · exact absurd hgv hgf
          case s12 =>
            intro w' ev hE hk ha hc hf
            intro gv hg
            have hgv := hg _ rfl
            refine ⟨fun hgt => ?_, fun hgf => ?_⟩
            · skip
              have e8 : ev (.tmp 8) = .slice (some ⟨g, o, none⟩) S.length c2 := ha 8 (by decide)
              exact opStep_val (by simp [execOp, e8, go_sem]) rfl
            · exact absurd hgv hgf
          case s13 =>
            intro w' ev hE hk ha hc hf
            intro gv hg
            have hgv := hg _ rfl
            refine ⟨fun hgt => ?_, fun hgf => ?_⟩
            · skip
              have e9 : ev (.tmp 9) = .int .i64 (k : Int) := ha 9 (by decide)
              exact opStep_val (by simp [execOp, e9, go_sem]) rfl
            · exact absurd hgv hgf
          case s14 =>
            intro w' ev hE hk ha hc hf
            intro gv hg
            have hgv := hg _ rfl
            refine ⟨fun hgt => ?_, fun hgf => ?_⟩
            · skip
              have e40 : ev (.tmp 40) = .int .i64 (k : Int) := hk.1 _ rfl
              exact opStep_val (by simp [execOp, e40, hc, i2, go_sem]) rfl
            · exact absurd hgv hgf
          case s15 =>
            intro w' ev hE hk ha hc hf
            intro gv hg
            have hgv := hg _ rfl
            refine ⟨fun hgt => ?_, fun hgf => ?_⟩
            · skip
              have e39 : ev (.tmp 39) = .slice (some ⟨g, o, none⟩) S.length c2 := hk.1 _ rfl
              have e41 : ev (.tmp 41) = .int .i64 ((k : Int) - 1) := hk.2.1 _ rfl
              exact opStep_val (by simp [execOp, e39, e41, i3, i4, i5, go_sem]) rfl
            · exact absurd hgv hgf
          case s16 =>
            intro w' ev hE hk ha hc hf
            intro gv hg
            have hgv := hg _ rfl
            refine ⟨fun hgt => ?_, fun hgf => ?_⟩
            · skip
              have e42 : ev (.tmp 42) = .pointer (some ⟨g, o + (k - 1) * 8, none⟩) := hk.1 _ rfl
              have c0 : w'.cell? ⟨g, o + (k - 1) * 8, none⟩ = some (.int .i64 (b 0)) := hE.cellv y0.out
              have c1 : w'.cell? ⟨g, o + (k - 1) * 8 + 1, none⟩ = some (.int .i64 (b 1)) := hE.cellv y1.out
              have c2 : w'.cell? ⟨g, o + (k - 1) * 8 + 2, none⟩ = some (.int .i64 (b 2)) := hE.cellv y2.out
              have c3 : w'.cell? ⟨g, o + (k - 1) * 8 + 3, none⟩ = some (.int .i64 (b 3)) := hE.cellv y3.out
              have c4 : w'.cell? ⟨g, o + (k - 1) * 8 + 4, none⟩ = some (.int .i64 (b 4)) := hE.cellv y4.out
              have c5 : w'.cell? ⟨g, o + (k - 1) * 8 + 5, none⟩ = some (.int .i64 (b 5)) := hE.cellv y5.out
              have c6 : w'.cell? ⟨g, o + (k - 1) * 8 + 6, none⟩ = some (.int .i64 (b 6)) := hE.cellv y6.out
              have c7 : w'.cell? ⟨g, o + (k - 1) * 8 + 7, none⟩ = some (.int .i64 (b 7)) := hE.cellv y7.out
              exact opStep_val (by simp [execOp, e42, c0, c1, c2, c3, c4, c5, c6, c7, go_sem]) rfl
            · exact absurd hgv hgf
          case s17 =>
            intro w' ev hE hk ha hc hf
            intro gv hg
            have hgv := hg _ rfl
            refine ⟨fun hgt => ?_, fun hgf => ?_⟩
            · skip
              have e8 : ev (.tmp 8) = .slice (some ⟨g, o, none⟩) S.length c2 := ha 8 (by decide)
              exact opStep_val (by simp [execOp, e8, go_sem]) rfl
            · exact absurd hgv hgf
          case s18 =>
            intro w' ev hE hk ha hc hf
            intro gv hg
            have hgv := hg _ rfl
            refine ⟨fun hgt => ?_, fun hgf => ?_⟩
            · skip
              have e9 : ev (.tmp 9) = .int .i64 (k : Int) := ha 9 (by decide)
              exact opStep_val (by simp [execOp, e9, go_sem]) rfl
            · exact absurd hgv hgf
          case s19 =>
            intro w' ev hE hk ha hc hf
            intro gv hg
            have hgv := hg _ rfl
            refine ⟨fun hgt => ?_, fun hgf => ?_⟩
            · skip
              have e44 : ev (.tmp 44) = .slice (some ⟨g, o, none⟩) S.length c2 := hk.1 _ rfl
              have e45 : ev (.tmp 45) = .int .i64 (k : Int) := hk.2.1 _ rfl
              exact opStep_val (by simp [execOp, e44, e45, i1, go_sem]) rfl
            · exact absurd hgv hgf
          case s20 =>
            intro w' ev hE hk ha hc hf
            intro gv hg
            have hgv := hg _ rfl
            refine ⟨fun hgt => ?_, fun hgf => ?_⟩
            · skip
              have e46 : ev (.tmp 46) = .pointer (some ⟨g, o + k * 8, none⟩) := hk.1 _ rfl
              have c0 : w'.cell? ⟨g, o + k * 8, none⟩ = some (.int .i64 (a 0)) := hE.cellv x0.out
              have c1 : w'.cell? ⟨g, o + k * 8 + 1, none⟩ = some (.int .i64 (a 1)) := hE.cellv x1.out
              have c2 : w'.cell? ⟨g, o + k * 8 + 2, none⟩ = some (.int .i64 (a 2)) := hE.cellv x2.out
              have c3 : w'.cell? ⟨g, o + k * 8 + 3, none⟩ = some (.int .i64 (a 3)) := hE.cellv x3.out
              have c4 : w'.cell? ⟨g, o + k * 8 + 4, none⟩ = some (.int .i64 (a 4)) := hE.cellv x4.out
              have c5 : w'.cell? ⟨g, o + k * 8 + 5, none⟩ = some (.int .i64 (a 5)) := hE.cellv x5.out
              have c6 : w'.cell? ⟨g, o + k * 8 + 6, none⟩ = some (.int .i64 (a 6)) := hE.cellv x6.out
              have c7 : w'.cell? ⟨g, o + k * 8 + 7, none⟩ = some (.int .i64 (a 7)) := hE.cellv x7.out
              exact opStep_val (by simp [execOp, e46, c0, c1, c2, c3, c4, c5, c6, c7, go_sem]) rfl
            · exact absurd hgv hgf
          case s21 =>
            intro w' ev hE hk ha hc hf
            intro gv hg
            have hgv := hg _ rfl
            refine ⟨fun hgt => ?_, fun hgf => ?_⟩
            · skip
              have e38 : ev (.tmp 38) = .slice A R.length c := hk.1 _ rfl
              have e43 : ev (.tmp 43) = .agg #[.int .i64 (b 0), .int .i64 (b 1), .int .i64 (b 2), .int .i64 (b 3), .int .i64 (b 4), .int .i64 (b 5), .int .i64 (b 6), .int .i64 (b 7)] := hk.2.1 _ rfl
              have e47 : ev (.tmp 47) = .agg #[.int .i64 (a 0), .int .i64 (a 1), .int .i64 (a 2), .int .i64 (a 3), .int .i64 (a 4), .int .i64 (a 5), .int .i64 (a 6), .int .i64 (a 7)] := hk.2.2.1 _ rfl
              refine opStep_call (by simp [execOp, resolve, invoke, hf, e38, e43, e47, go_sem]) (oCmp_any _ R b a _ (hO.out.ext ((Ext.refl _).drew.trans hE)) hR.out hbB.out haB.out) ?_
              rintro e w1 ⟨rfl, hE1⟩
              exact ⟨_, rfl, hE1, by rw [hcmp.out]⟩
            · exact absurd hgv hgf
          case s22 =>
            intro w' ev hE hk ha hc hf
            intro gv hg
            have hgv := hg _ rfl
            refine ⟨fun hgt => ?_, fun hgf => ?_⟩
            · skip
              have e48 : ev (.tmp 48) = .int .i64 1 := hk.1 _ rfl
              exact opStep_val (by simp [execOp, e48, hc, go_sem]) rfl
            · exact absurd hgv hgf
          case s23 =>
            intro w' ev hE hk ha hc hf
            intro gv hg
            have hgv := hg _ rfl
            refine ⟨fun hgt => ?_, fun hgf => ?_⟩
            · skip
              have e37 : ev (.tmp 37) = .bool true := hk.1 _ rfl
              have e49 : ev (.tmp 49) = .bool false := hk.2.1 _ rfl
              exact opStep_val (by simp [execOp, e37, e49, hc, go_sem]) rfl
            · exact absurd hgv hgf
          case s24 =>
            intro w' ev hE hk ha hc hf
            have e34 : ev (.tmp 34) = .bool false := hk.1 _ rfl
            have e50 : ev (.tmp 50) = .bool false := hk.2.1 _ rfl
            exact opStep_val (by simp [execOp, e34, e50, hc, go_sem]) rfl
        case fin =>
          intro gf w' hE hF
          have e24 := hF 24 _ rfl
          simp only [List.length_cons, List.length_nil, Nat.reduceAdd, List.drop_succ_cons, List.drop_zero, List.take_succ_cons, List.take_zero, putG, Act.put, List.setIfInBounds_toArray, List.set_cons_succ, List.set_cons_zero, e24]
          replace hE := hide ((Ext.refl wr).drew.trans hE)
          clear hF e24 i0 i1 i2 i3 i4 i5
          go_wp2
          exact ⟨⟨k + 1, hlt, by simp, hI.out.trans hE.out⟩, by simp [intOf]; omega⟩
    · obtain rfl : k = S.length := by omega
      go_wp2
      go_loopw [10] (fun s wr => ∃ j : Nat, j ≤ M.length ∧ s = .int .i64 j ∧ Hid (Ext w4 wr)) (fun s _ => M.length - (intOf s).toNat)
      case atStart => exact ⟨0, by omega, rfl, hI.out⟩
      case round =>
        clear hI
        obtain ⟨j, hj, rfl, hJ⟩ := hrel
        by_cases hlt : j < M.length
        · obtain ⟨A', c', hv', hc', hm', hx'⟩ := hM.out.open_
          cases hv'
          obtain ⟨g, o, rfl, hgl, hcl⟩ := hx' (by omega)
          have hhas : Hid (hasTo S (rowAt M j) 0 = true) := has_of (by obtain ⟨b, hb, he⟩ := hS.out.sup _ (rowAt_mem hlt); exact ⟨b, hb, he⟩)
          have hd1 : decide (j < M.length) = true := by simpa using hlt
          have hSj := hide (hSo.out.ext hJ.out)
          have z0 : wr.cell? ⟨g, o + j * 8, none⟩ = some (.int .i64 (rowAt M j 0)) := hJ.out.cellv (hcl j 0 hlt (by omega))
          have z1 : wr.cell? ⟨g, o + j * 8 + 1, none⟩ = some (.int .i64 (rowAt M j 1)) := hJ.out.cellv (hcl j 1 hlt (by omega))
          have z2 : wr.cell? ⟨g, o + j * 8 + 2, none⟩ = some (.int .i64 (rowAt M j 2)) := hJ.out.cellv (hcl j 2 hlt (by omega))
          have z3 : wr.cell? ⟨g, o + j * 8 + 3, none⟩ = some (.int .i64 (rowAt M j 3)) := hJ.out.cellv (hcl j 3 hlt (by omega))
          have z4 : wr.cell? ⟨g, o + j * 8 + 4, none⟩ = some (.int .i64 (rowAt M j 4)) := hJ.out.cellv (hcl j 4 hlt (by omega))
          have z5 : wr.cell? ⟨g, o + j * 8 + 5, none⟩ = some (.int .i64 (rowAt M j 5)) := hJ.out.cellv (hcl j 5 hlt (by omega))
          have z6 : wr.cell? ⟨g, o + j * 8 + 6, none⟩ = some (.int .i64 (rowAt M j 6)) := hJ.out.cellv (hcl j 6 hlt (by omega))
          have z7 : wr.cell? ⟨g, o + j * 8 + 7, none⟩ = some (.int .i64 (rowAt M j 7)) := hJ.out.cellv (hcl j 7 hlt (by omega))
          clear hcl hx' hc' hm'
          generalize rowAt M j = a at *
          go_wp2_with fail
          refine (has_any _ S a _ hSj.out).mono ?_
          rw [hhas.out]
          rintro e w5 ⟨rfl, hE5⟩
          replace hE5 := hide (hJ.out.trans hE5)
          clear z0 z1 z2 z3 z4 z5 z6 z7
          go_wp2
          exact ⟨⟨j + 1, hlt, by simp, hE5.out⟩, by simp [intOf]; omega⟩
        · obtain rfl : j = M.length := by omega
          have hO5 := hide (hO.out.ext hJ.out)
          have hS5 := hide (hSo.out.ext hJ.out)
          go_wp2_with fail
          refine (Sort_any _ _ R S _ hO5.out hR.out hS5.out hSb.out (by omega)).mono ?_
          rintro e w6 ⟨T, hT, A3, c3, rfl, hTo, hE6⟩
          have hal := hide (alike_of hT hS.out.dec)
          have hT6 := hide hTo.rows
          have hS6 := hide (hS5.out.ext hE6)
          replace hE6 := hide (hJ.out.trans hE6)
          clear hTo hT
          go_wp2_with fail
          refine (alike_any _ _ T S _ hT6.out hS6.out).mono ?_
          rw [hal.out]
          rintro e w7 ⟨rfl, hE7⟩
          replace hE7 := hide ((hE8.out.trans hE6.out).trans hE7)
          go_wp2
          go_ret
          exact ⟨rfl, hE7.out⟩

end Go.Proofs.Yteefhmdameeoaaa
