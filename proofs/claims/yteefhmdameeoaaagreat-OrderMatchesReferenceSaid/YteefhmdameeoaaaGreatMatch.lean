/-
 The law OrderMatchesReference returns true for every input: its walk.
-/
import Derived.Test.YteefhmdameeoaaaGreatRefv
import Derived.Test.YteefhmdameeoaaaGreatErrs
set_option linter.unusedSimpArgs false
set_option linter.unusedVariables false
namespace Go.Proofs.YteefhmdameeoaaaGreat
open Go.RowKit

theorem grows_ge {f : Nat → Nat} {n : Nat} (h : ∀ i j, i < j → j < n → f i < f j) : ∀ i, i < n → i ≤ f i
 | 0, _ => Nat.zero_le _
 | i + 1, hi => by have := grows_ge h i (by omega); have := h i (i + 1) (by omega) hi; omega
theorem grows_le {f : Nat → Nat} {n m : Nat} (h : ∀ i j, i < j → j < n → f i < f j) (hm : ∀ i, i < n → f i < m) : ∀ d, d < n → f (n - 1 - d) + d < m
 | 0, hd => by have := hm (n - 1) (by omega); simpa using this
 | d + 1, hd => by
  have := grows_le h hm d (by omega)
  have := h (n - 1 - (d + 1)) (n - 1 - d) (by omega) (by omega)
  omega
/-- Strictly decreasing lists with the same elements are equal. -/
theorem dec_unique {R S T : List (Nat → Int)} (hS : ∀ i j, i < j → j < S.length → 0 < oCmp R (rowAt S i) (rowAt S j)) (hT : ∀ i j, i < j → j < T.length → 0 < oCmp R (rowAt T i) (rowAt T j)) (h1 : ∀ a ∈ S, ∃ b ∈ T, Eqv a b) (h2 : ∀ b ∈ T, ∃ a ∈ S, Eqv a b) : S.length = T.length ∧ ∀ i, i < S.length → Eqv (rowAt S i) (rowAt T i) := by
 have idx : ∀ (A B : List (Nat → Int)), (∀ i j, i < j → j < A.length → 0 < oCmp R (rowAt A i) (rowAt A j)) → (∀ i j, i < j → j < B.length → 0 < oCmp R (rowAt B i) (rowAt B j)) → (∀ a ∈ A, ∃ b ∈ B, Eqv a b) → ∃ f : Nat → Nat, (∀ i, i < A.length → f i < B.length ∧ Eqv (rowAt A i) (rowAt B (f i))) ∧ ∀ i j, i < j → j < A.length → f i < f j := fun A B hA hB hab => by
  have key : ∀ i, ∃ k, i < A.length → k < B.length ∧ Eqv (rowAt A i) (rowAt B k) := fun i => by
   by_cases hi : i < A.length
   ·obtain ⟨b, hb, he⟩ := hab _ (rowAt_mem hi)
    obtain ⟨k, hk, rfl⟩ := List.mem_iff_getElem.1 hb
    have e : rowAt B k = B[k] := by simp [rowAt, List.getD_eq_getElem?_getD, List.getElem?_eq_getElem hk]
    exact ⟨k, fun _ => ⟨hk, by rw [e]; exact he⟩⟩
   ·exact ⟨0, fun h => absurd h hi⟩
  refine ⟨fun i => (key i).choose, fun i hi => (key i).choose_spec hi, fun i j hij hj => ?_⟩
  obtain ⟨a1, a2⟩ := (key i).choose_spec (by omega)
  obtain ⟨b1, b2⟩ := (key j).choose_spec hj
  have hd := hA i j hij hj
  rw [oCmp_congr a2 b2] at hd
  rcases Nat.lt_trichotomy (key i).choose (key j).choose with h | h | h
  ·exact h
  ·rw [h, oCmp_eq (fun _ _ => rfl)] at hd; omega
  ·have := hB _ _ h a1
   rw [oCmp_neg] at this
   omega
 obtain ⟨f, f1, f2⟩ := idx S T hS hT h1
 obtain ⟨f', g1, g2⟩ := idx T S hT hS (fun b hb => by obtain ⟨a, ha, he⟩ := h2 b hb; exact ⟨a, ha, he.symm⟩)
 have l1 : S.length ≤ T.length := by
  rcases Nat.eq_zero_or_pos S.length with h | h
  ·omega
  ·have := grows_ge f2 (S.length - 1) (by omega); have := (f1 (S.length - 1) (by omega)).1; omega
 have l2 : T.length ≤ S.length := by
  rcases Nat.eq_zero_or_pos T.length with h | h
  ·omega
  ·have := grows_ge g2 (T.length - 1) (by omega); have := (g1 (T.length - 1) (by omega)).1; omega
 refine ⟨by omega, fun i hi => ?_⟩
 have e : f i = i := by
  have h3 := grows_ge f2 i hi
  have h4 := grows_le f2 (fun i hi => (f1 i hi).1) (S.length - 1 - i) (by omega)
  rw [show S.length - 1 - (S.length - 1 - i) = i by omega] at h4
  omega
 have := (f1 i hi).2
 rwa [e] at this
/-- Two sorted lists of the same monomials are equal. -/
theorem sorts_alike {R L S T : List (Nat → Int)} (h1 : SortOf R L S) (h2 : SortOf R L T) : alikeB S T = true := by
 obtain ⟨h3, h4⟩ := dec_unique h1.dec h2.dec (fun a ha => by
  obtain ⟨b, hb, e1⟩ := h1.sub a ha
  obtain ⟨c, hc, e2⟩ := h2.sup b hb
  exact ⟨c, hc, fun i hi => by rw [e1 i hi, e2 i hi]⟩) (fun a ha => by
  obtain ⟨b, hb, e1⟩ := h2.sub a ha
  obtain ⟨c, hc, e2⟩ := h1.sup b hb
  exact ⟨c, hc, fun i hi => by rw [e1 i hi, e2 i hi]⟩)
 simp only [alikeB, alikeTo, h3, decide_true, Bool.true_and, List.all_eq_true, List.mem_range]
 intro i hi
 exact eqB_true.2 (h4 (0 + i) (by omega))
def RestO (S : List (Nat → Int)) (v : Value) (w : World) : Prop := ∃ A c, v = .slice A S.length c ∧ RowsAt .i64 35 w (.slice A S.length c) S
theorem RestO.ext {S : List (Nat → Int)} {v : Value} {w w' : World} (h : RestO S v w) (he : Ext w w') : RestO S v w' := by
 obtain ⟨A, c, h1, h2⟩ := h
 exact ⟨A, c, h1, h2.ext he⟩
theorem monosOf_in {L : List (Nat → Int)} (hL : ∀ r ∈ L, In8 r 0 65535) (k : Nat) : ∀ r ∈ monosOf L k, In8 r 0 19999 := fun r h => by
 obtain ⟨x, hx, rfl⟩ := List.mem_map.1 h
 exact monoOf_in (hL x (List.mem_of_mem_take hx))
set_option maxRecDepth 100000 in
set_option maxHeartbeats 3200000 in
theorem match_walk (v : Value) (X : List (Nat → Int)) (u : Value) (L : List (Nat → Int)) (k0 k1 : Nat) (w : World) (hv : RowsIn .i8 w v X) (hX : ∀ r ∈ X, In8 r (-128) 127) (hu : RowsIn .u16 w u L) (hL : ∀ r ∈ L, In8 r 0 65535) (hk0 : k0 < 65536) (hk1 : k1 < 65536) :
  Calls Tryz.prog 3 #[.agg #[v], u, .agg #[.int .u16 k0, .int .u16 k1]] w fun e w' => e = .returned (.bool true) ∧ Ext w w' := by
 obtain ⟨A0, c0, rfl, _⟩ := id hv
 obtain ⟨A1, c1, rfl, _⟩ := id hu
 have hR : Hid (∀ r ∈ madeRows X, In8 r (-1000) 1000) := fun r h => (madeRows_in hX r h).mono (by omega) (by omega)
 have hMb : Hid (∀ r ∈ monosOf L (min L.length 8), In8 r (-1000000) 1000000) := fun r h => (monosOf_in hL _ r h).mono (by omega) (by omega)
 have hMl : (monosOf L (min L.length 8)).length ≤ 8 := by rw [monosOf_length (by omega)]; omega
 obtain ⟨m, hm, hm8⟩ : ∃ m : Nat, IntKind.u8.wrap (k0 : Int) = (m : Int) ∧ m < 256 := ⟨k0 % 256, by simp [IntKind.wrap, IntKind.bits, IntKind.signed], by omega⟩
 have hbx : Hid (Blk (w.alloc (.cells #[.slice A0 X.length c0] 24)) w.heap.size 24 #[.slice A0 X.length c0]) := Blk.new _ _ _
 have hb5 : Hid (Blk ((w.alloc (.cells #[.slice A0 X.length c0] 24)).alloc (.cells #[.int .u16 k0, .int .u16 k1] 27)) (w.alloc (.cells #[.slice A0 X.length c0] 24)).heap.size 27 #[.int .u16 k0, .int .u16 k1]) := Blk.new _ _ _
 have hb3 : Hid (Blk ((w.alloc (.cells #[.slice A0 X.length c0] 24)).alloc (.cells #[.int .u16 k0, .int .u16 k1] 27)) w.heap.size 24 #[.slice A0 X.length c0]) := hbx.out.ext ((Ext.refl _).alloc _)
 have hEq : Hid (Ext w ((w.alloc (.cells #[.slice A0 X.length c0] 24)).alloc (.cells #[.int .u16 k0, .int .u16 k1] 27))) := ((Ext.refl w).alloc _).alloc _
 have hsz : (w.alloc (.cells #[.slice A0 X.length c0] 24)).heap.size = w.heap.size + 1 := by show (w.heap.push _).size = _; exact Array.size_push ..
 rw [hsz] at hb5
 clear hbx hsz
 replace hv := hide hv
 replace hu := hide hu
 replace hX := hide hX
 replace hL := hide hL
 replace hm := hide hm
 go_enter Tryz.func3, Tryz.ntmps3
 go_wp2_with fail
 generalize ((w.alloc (.cells #[.slice A0 X.length c0] 24)).alloc (.cells #[.int .u16 k0, .int .u16 k1] 27)) = wa at *
 obtain ⟨B3, hB3⟩ : ∃ B3, B3 = w.heap.size := ⟨_, rfl⟩
 obtain ⟨B5, hB5⟩ : ∃ B5, B5 = w.heap.size + 1 := ⟨_, rfl⟩
 rw [← hB5] at hb5 ⊢
 rw [← hB3] at hb3 ⊢
 clear hB3 hB5
 refine (examples_any _).mono ?_
 rintro e wq ⟨rfl, hE⟩
 replace hEq := hide (hEq.out.trans hE)
 replace hb3 := hide (hb3.out.ext hE)
 replace hb5 := hide (hb5.out.ext hE)
 clear hE
 go_upto_region 4 with (fail)
 refine wp_region_v (by kernel_rfl) [[], [(24, 0)], [], [(26, 2)], [], [(28, 4)], [(29, 5)], [(25, 1)], [(27, 3)]] [[], [0], [], [0, 1, 2], [], [4], [4, 5], [0, 1, 2, 3], [0, 1, 2, 3, 7]]
  [fun v _ => v = .agg #[.slice A0 X.length c0], fun v w' => RestO (madeRows X) v w', fun v _ => v = .slice A1 L.length c1, fun v w' => RestAt (monosOf L (min L.length 8)) v w', fun v _ => v = .pointer (some ⟨B5, 0, none⟩), fun v _ => v = .int .u16 (k0 : Int), fun v _ => v = .int .u8 (m : Int), fun v w' => RestO (madeRows X) v w', fun v w' => RestAt (monosOf L (min L.length 8)) v w']
  rfl (by kernel_rfl) (by kernel_rfl) ?stab ?steps ?fin
 case stab => exact .cons (Stab.eq _) (.cons (fun _ _ _ he h => h.ext he) (.cons (Stab.eq _) (.cons (fun _ _ _ he h => h.ext he) (.cons (Stab.eq _) (.cons (Stab.eq _) (.cons (Stab.eq _) (.cons (fun _ _ _ he h => h.ext he) (.cons (fun _ _ _ he h => h.ext he) .nil))))))))
 case steps =>
  refine .cons ?s0 (.cons ?s1 (.cons ?s2 (.cons ?s3 (.cons ?s4 (.cons ?s5 (.cons ?s6 (.cons ?s7 (.cons ?s8 .nil))))))))
  case s0 =>
   intro w' ev hE hk ha hc hf
   have e3 : ev (.tmp 3) = .pointer (some ⟨B3, 0, none⟩) := ha 3 (by decide)
   have c0 : w'.cell? ⟨B3, 0, none⟩ = some (.slice A0 X.length c0) := hE.cellv (hb3.out.cell 0)
   exact opStep_val (by simp [execOp, e3, c0, go_sem]) rfl
  case s1 =>
   intro w' ev hE hk ha hc hf
   have e24 : ev (.tmp 24) = .agg #[.slice A0 X.length c0] := hk.1 _ rfl
   refine opStep_call (by simp [execOp, resolve, invoke, hf, e24, go_sem]) (Made_any _ X _ (hv.out.ext (hEq.out.trans ((Ext.refl _).drew.trans hE))) hX.out) ?_
   rintro e w1 ⟨A, c, rfl, hO, hE1⟩
   exact ⟨_, rfl, hE1, A, c, rfl, hO.rows⟩
  case s2 =>
   intro w' ev hE hk ha hc hf
   have e1 : ev (.tmp 1) = .slice A1 L.length c1 := ha 1 (by decide)
   exact opStep_val (by simp [execOp, e1, go_sem]) rfl
  case s3 =>
   intro w' ev hE hk ha hc hf
   have e26 : ev (.tmp 26) = .slice A1 L.length c1 := hk.1 _ rfl
   refine opStep_call (by simp [execOp, resolve, invoke, hf, e26, go_sem]) (monos_any _ L _ (hu.out.ext (hEq.out.trans ((Ext.refl _).drew.trans hE))) hL.out) ?_
   rintro e w1 ⟨A, c, rfl, hO, hE1⟩
   exact ⟨_, rfl, hE1, A, c, rfl, hO.rows⟩
  case s4 =>
   intro w' ev hE hk ha hc hf
   have e5 : ev (.tmp 5) = .pointer (some ⟨B5, 0, none⟩) := ha 5 (by decide)
   exact opStep_val (by simp [execOp, e5, hc, go_sem]) rfl
  case s5 =>
   intro w' ev hE hk ha hc hf
   have e28 : ev (.tmp 28) = .pointer (some ⟨B5, 0, none⟩) := hk.1 _ rfl
   have c0 : w'.cell? ⟨B5, 0, none⟩ = some (.int .u16 (k0 : Int)) := hE.cellv (hb5.out.cell 0)
   exact opStep_val (by simp [execOp, e28, c0, go_sem]) rfl
  case s6 =>
   intro w' ev hE hk ha hc hf
   have e29 : ev (.tmp 29) = .int .u16 (k0 : Int) := hk.1 _ rfl
   exact opStep_val (by simp [execOp, e29, hm.out, go_sem]) rfl
  case s7 =>
   intro w' ev hE hk ha hc hf
   have f25 := hk.1 _ rfl
   exact opStep_val (by simp [execOp, go_sem]) f25
  case s8 =>
   intro w' ev hE hk ha hc hf
   have f27 := hk.1 _ rfl
   exact opStep_val (by simp [execOp, go_sem]) f27
 case fin =>
  intro gf w' hE hF
  obtain ⟨A, c, e7, hO⟩ := hF 7 _ rfl
  obtain ⟨A2, c2, e8, hM⟩ := hF 8 _ rfl
  have e6 := hF 6 _ rfl
  simp only [List.length_cons, List.length_nil, Nat.reduceAdd, List.drop_succ_cons, List.drop_zero, List.take_succ_cons, List.take_zero, putG, Act.put, List.setIfInBounds_toArray, List.set_cons_succ, List.set_cons_zero, e6, e7, e8]
  replace hE := (Ext.refl wq).drew.trans hE
  have hEw := hide (hEq.out.trans hE)
  replace hb5 := hide (hb5.out.ext hE)
  replace hO := hide hO
  replace hM := hide hM
  have hc5 : w'.cell? ⟨B5, 1, none⟩ = some (.int .u16 (k1 : Int)) := hb5.out.cell 1
  clear hF hE e6 e7 e8 hEq hb3 hv hu hX hL hm hk0
  generalize gf 0 = g0 at *
  generalize gf 1 = g1 at *
  generalize gf 2 = g2 at *
  generalize gf 3 = g3 at *
  generalize gf 4 = g4 at *
  generalize gf 5 = g5 at *
  obtain ⟨wm, rfl⟩ : ∃ wm : World, wm = w' := ⟨_, rfl⟩
  generalize madeRows X = R at *
  generalize monosOf L (min L.length 8) = M at *
  go_wp2
  go_loopw [11] (fun s wr => ∃ k : Nat, k ≤ M.length ∧ s = .int .i64 k ∧ Hid (Ext wm wr)) (fun s _ => M.length - (intOf s).toNat)
  case atStart => exact ⟨0, by omega, rfl, Ext.refl _⟩
  case round =>
   obtain ⟨k, hk, rfl, hI⟩ := hrel
   by_cases hlt : k < M.length
   ·obtain ⟨A', c', hv', hc', hm', hx'⟩ := hM.out.open_
    cases hv'
    obtain ⟨gm, om, rfl, hgl, hcl⟩ := hx' (by omega)
    have hyB := hide (hMb.out _ (rowAt_mem (show 0 < M.length by omega)))
    have hxB := hide (hMb.out _ (rowAt_mem hlt))
    have hd1 : decide (k < M.length) = true := by simpa using hlt
    have y0 : Hid (wr.cell? ⟨gm, om, none⟩ = some (.int .i64 (rowAt M 0 0))) := hI.out.cellv (by have := hcl 0 0 (by omega) (by omega); simpa using this)
    have y1 : Hid (wr.cell? ⟨gm, om + 1, none⟩ = some (.int .i64 (rowAt M 0 1))) := hI.out.cellv (by have := hcl 0 1 (by omega) (by omega); simpa using this)
    have y2 : Hid (wr.cell? ⟨gm, om + 2, none⟩ = some (.int .i64 (rowAt M 0 2))) := hI.out.cellv (by have := hcl 0 2 (by omega) (by omega); simpa using this)
    have y3 : Hid (wr.cell? ⟨gm, om + 3, none⟩ = some (.int .i64 (rowAt M 0 3))) := hI.out.cellv (by have := hcl 0 3 (by omega) (by omega); simpa using this)
    have y4 : Hid (wr.cell? ⟨gm, om + 4, none⟩ = some (.int .i64 (rowAt M 0 4))) := hI.out.cellv (by have := hcl 0 4 (by omega) (by omega); simpa using this)
    have y5 : Hid (wr.cell? ⟨gm, om + 5, none⟩ = some (.int .i64 (rowAt M 0 5))) := hI.out.cellv (by have := hcl 0 5 (by omega) (by omega); simpa using this)
    have y6 : Hid (wr.cell? ⟨gm, om + 6, none⟩ = some (.int .i64 (rowAt M 0 6))) := hI.out.cellv (by have := hcl 0 6 (by omega) (by omega); simpa using this)
    have y7 : Hid (wr.cell? ⟨gm, om + 7, none⟩ = some (.int .i64 (rowAt M 0 7))) := hI.out.cellv (by have := hcl 0 7 (by omega) (by omega); simpa using this)
    have x0 : Hid (wr.cell? ⟨gm, om + k * 8, none⟩ = some (.int .i64 (rowAt M k 0))) := hI.out.cellv (hcl k 0 hlt (by omega))
    have x1 : Hid (wr.cell? ⟨gm, om + k * 8 + 1, none⟩ = some (.int .i64 (rowAt M k 1))) := hI.out.cellv (hcl k 1 hlt (by omega))
    have x2 : Hid (wr.cell? ⟨gm, om + k * 8 + 2, none⟩ = some (.int .i64 (rowAt M k 2))) := hI.out.cellv (hcl k 2 hlt (by omega))
    have x3 : Hid (wr.cell? ⟨gm, om + k * 8 + 3, none⟩ = some (.int .i64 (rowAt M k 3))) := hI.out.cellv (hcl k 3 hlt (by omega))
    have x4 : Hid (wr.cell? ⟨gm, om + k * 8 + 4, none⟩ = some (.int .i64 (rowAt M k 4))) := hI.out.cellv (hcl k 4 hlt (by omega))
    have x5 : Hid (wr.cell? ⟨gm, om + k * 8 + 5, none⟩ = some (.int .i64 (rowAt M k 5))) := hI.out.cellv (hcl k 5 hlt (by omega))
    have x6 : Hid (wr.cell? ⟨gm, om + k * 8 + 6, none⟩ = some (.int .i64 (rowAt M k 6))) := hI.out.cellv (hcl k 6 hlt (by omega))
    have x7 : Hid (wr.cell? ⟨gm, om + k * 8 + 7, none⟩ = some (.int .i64 (rowAt M k 7))) := hI.out.cellv (hcl k 7 hlt (by omega))
    clear hcl hx' hc' hm' hgl hc5
    generalize rowAt M 0 = y at *
    generalize rowAt M k = x at *
    go_upto_region 8 with (fail)
    have i0 : (0 : Int) < M.length := by omega
    have i00 : ¬ M = [] := fun e => by rw [e] at hlt; simp at hlt
    have i1 : (k : Int) < M.length := by omega
    refine wp_region_v (by kernel_rfl) [[], [], [(38, 1)], [(39, 2)], [], [], [(41, 4), (42, 5)], [(43, 6)], [(37, 0), (40, 3), (44, 7)], [], [], [(47, 10)], [(48, 11)], [], [], [(50, 13), (51, 14)], [(52, 15)], [(46, 9), (49, 12), (53, 16)], [(45, 8), (54, 17)]] [[], [], [1], [1, 2], [], [], [4, 5], [4, 5, 6], [0, 1, 2, 3, 4, 5, 6, 7], [], [], [10], [10, 11], [], [], [13, 14], [13, 14, 15], [0, 1, 2, 3, 4, 5, 6, 7, 8, 9, 10, 11, 12, 13, 14, 15, 16], [0, 1, 2, 3, 4, 5, 6, 7, 8, 9, 10, 11, 12, 13, 14, 15, 16, 17]]
     [fun v _ => v = .slice A R.length c, fun v _ => v = .slice (some ⟨gm, om, none⟩) M.length c2, fun v _ => v = .pointer (some ⟨gm, om, none⟩), fun v _ => v = .agg #[.int .i64 (y 0), .int .i64 (y 1), .int .i64 (y 2), .int .i64 (y 3), .int .i64 (y 4), .int .i64 (y 5), .int .i64 (y 6), .int .i64 (y 7)], fun v _ => v = .slice (some ⟨gm, om, none⟩) M.length c2, fun v _ => v = .int .i64 (k : Int), fun v _ => v = .pointer (some ⟨gm, om + k * 8, none⟩), fun v _ => v = .agg #[.int .i64 (x 0), .int .i64 (x 1), .int .i64 (x 2), .int .i64 (x 3), .int .i64 (x 4), .int .i64 (x 5), .int .i64 (x 6), .int .i64 (x 7)], fun v _ => v = .int .i64 (oCmp R y x), fun v _ => v = .slice A R.length c, fun v _ => v = .slice (some ⟨gm, om, none⟩) M.length c2, fun v _ => v = .pointer (some ⟨gm, om, none⟩), fun v _ => v = .agg #[.int .i64 (y 0), .int .i64 (y 1), .int .i64 (y 2), .int .i64 (y 3), .int .i64 (y 4), .int .i64 (y 5), .int .i64 (y 6), .int .i64 (y 7)], fun v _ => v = .slice (some ⟨gm, om, none⟩) M.length c2, fun v _ => v = .int .i64 (k : Int), fun v _ => v = .pointer (some ⟨gm, om + k * 8, none⟩), fun v _ => v = .agg #[.int .i64 (x 0), .int .i64 (x 1), .int .i64 (x 2), .int .i64 (x 3), .int .i64 (x 4), .int .i64 (x 5), .int .i64 (x 6), .int .i64 (x 7)], fun v _ => v = .int .i64 (oCmp R y x), fun v _ => v = .bool false]
     rfl (by kernel_rfl) (by kernel_rfl) ?stab ?steps ?fin
    case stab => exact .cons (Stab.eq _) (.cons (Stab.eq _) (.cons (Stab.eq _) (.cons (Stab.eq _) (.cons (Stab.eq _) (.cons (Stab.eq _) (.cons (Stab.eq _) (.cons (Stab.eq _) (.cons (Stab.eq _) (.cons (Stab.eq _) (.cons (Stab.eq _) (.cons (Stab.eq _) (.cons (Stab.eq _) (.cons (Stab.eq _) (.cons (Stab.eq _) (.cons (Stab.eq _) (.cons (Stab.eq _) (.cons (Stab.eq _) (.cons (Stab.eq _) .nil))))))))))))))))))
    case steps =>
     refine .cons ?s0 (.cons ?s1 (.cons ?s2 (.cons ?s3 (.cons ?s4 (.cons ?s5 (.cons ?s6 (.cons ?s7 (.cons ?s8 (.cons ?s9 (.cons ?s10 (.cons ?s11 (.cons ?s12 (.cons ?s13 (.cons ?s14 (.cons ?s15 (.cons ?s16 (.cons ?s17 (.cons ?s18 .nil))))))))))))))))))
     case s0 =>
      intro w' ev hE hk ha hc hf
      have e8 : ev (.tmp 8) = .slice A R.length c := ha 8 (by decide)
      exact opStep_val (by simp [execOp, e8, go_sem]) rfl
     case s1 =>
      intro w' ev hE hk ha hc hf
      have e9 : ev (.tmp 9) = .slice (some ⟨gm, om, none⟩) M.length c2 := ha 9 (by decide)
      exact opStep_val (by simp [execOp, e9, go_sem]) rfl
     case s2 =>
      intro w' ev hE hk ha hc hf
      have e38 : ev (.tmp 38) = .slice (some ⟨gm, om, none⟩) M.length c2 := hk.1 _ rfl
      exact opStep_val (by simp [execOp, e38, hc, i0, i00, go_sem]) rfl
     case s3 =>
      intro w' ev hE hk ha hc hf
      have e39 : ev (.tmp 39) = .pointer (some ⟨gm, om, none⟩) := hk.1 _ rfl
      have c0 : w'.cell? ⟨gm, om, none⟩ = some (.int .i64 (y 0)) := hE.cellv y0.out
      have c1 : w'.cell? ⟨gm, om + 1, none⟩ = some (.int .i64 (y 1)) := hE.cellv y1.out
      have c2 : w'.cell? ⟨gm, om + 2, none⟩ = some (.int .i64 (y 2)) := hE.cellv y2.out
      have c3 : w'.cell? ⟨gm, om + 3, none⟩ = some (.int .i64 (y 3)) := hE.cellv y3.out
      have c4 : w'.cell? ⟨gm, om + 4, none⟩ = some (.int .i64 (y 4)) := hE.cellv y4.out
      have c5 : w'.cell? ⟨gm, om + 5, none⟩ = some (.int .i64 (y 5)) := hE.cellv y5.out
      have c6 : w'.cell? ⟨gm, om + 6, none⟩ = some (.int .i64 (y 6)) := hE.cellv y6.out
      have c7 : w'.cell? ⟨gm, om + 7, none⟩ = some (.int .i64 (y 7)) := hE.cellv y7.out
      exact opStep_val (by simp [execOp, e39, c0, c1, c2, c3, c4, c5, c6, c7, go_sem]) rfl
     case s4 =>
      intro w' ev hE hk ha hc hf
      have e9 : ev (.tmp 9) = .slice (some ⟨gm, om, none⟩) M.length c2 := ha 9 (by decide)
      exact opStep_val (by simp [execOp, e9, go_sem]) rfl
     case s5 =>
      intro w' ev hE hk ha hc hf
      have e11 : ev (.tmp 11) = .int .i64 (k : Int) := ha 11 (by decide)
      exact opStep_val (by simp [execOp, e11, go_sem]) rfl
     case s6 =>
      intro w' ev hE hk ha hc hf
      have e41 : ev (.tmp 41) = .slice (some ⟨gm, om, none⟩) M.length c2 := hk.1 _ rfl
      have e42 : ev (.tmp 42) = .int .i64 (k : Int) := hk.2.1 _ rfl
      exact opStep_val (by simp [execOp, e41, e42, i1, go_sem]) rfl
     case s7 =>
      intro w' ev hE hk ha hc hf
      have e43 : ev (.tmp 43) = .pointer (some ⟨gm, om + k * 8, none⟩) := hk.1 _ rfl
      have c0 : w'.cell? ⟨gm, om + k * 8, none⟩ = some (.int .i64 (x 0)) := hE.cellv x0.out
      have c1 : w'.cell? ⟨gm, om + k * 8 + 1, none⟩ = some (.int .i64 (x 1)) := hE.cellv x1.out
      have c2 : w'.cell? ⟨gm, om + k * 8 + 2, none⟩ = some (.int .i64 (x 2)) := hE.cellv x2.out
      have c3 : w'.cell? ⟨gm, om + k * 8 + 3, none⟩ = some (.int .i64 (x 3)) := hE.cellv x3.out
      have c4 : w'.cell? ⟨gm, om + k * 8 + 4, none⟩ = some (.int .i64 (x 4)) := hE.cellv x4.out
      have c5 : w'.cell? ⟨gm, om + k * 8 + 5, none⟩ = some (.int .i64 (x 5)) := hE.cellv x5.out
      have c6 : w'.cell? ⟨gm, om + k * 8 + 6, none⟩ = some (.int .i64 (x 6)) := hE.cellv x6.out
      have c7 : w'.cell? ⟨gm, om + k * 8 + 7, none⟩ = some (.int .i64 (x 7)) := hE.cellv x7.out
      exact opStep_val (by simp [execOp, e43, c0, c1, c2, c3, c4, c5, c6, c7, go_sem]) rfl
     case s8 =>
      intro w' ev hE hk ha hc hf
      have e37 : ev (.tmp 37) = .slice A R.length c := hk.1 _ rfl
      have e40 : ev (.tmp 40) = .agg #[.int .i64 (y 0), .int .i64 (y 1), .int .i64 (y 2), .int .i64 (y 3), .int .i64 (y 4), .int .i64 (y 5), .int .i64 (y 6), .int .i64 (y 7)] := hk.2.1 _ rfl
      have e44 : ev (.tmp 44) = .agg #[.int .i64 (x 0), .int .i64 (x 1), .int .i64 (x 2), .int .i64 (x 3), .int .i64 (x 4), .int .i64 (x 5), .int .i64 (x 6), .int .i64 (x 7)] := hk.2.2.1 _ rfl
      refine opStep_call (by simp [execOp, resolve, invoke, hf, e37, e40, e44, go_sem]) (oCmp_any _ R y x _ (hO.out.ext (hI.out.trans ((Ext.refl _).drew.trans hE))) hR.out hyB.out hxB.out) ?_
      rintro e w1 ⟨rfl, hE1⟩
      exact ⟨_, rfl, hE1, rfl⟩
     case s9 =>
      intro w' ev hE hk ha hc hf
      have e8 : ev (.tmp 8) = .slice A R.length c := ha 8 (by decide)
      exact opStep_val (by simp [execOp, e8, go_sem]) rfl
     case s10 =>
      intro w' ev hE hk ha hc hf
      have e9 : ev (.tmp 9) = .slice (some ⟨gm, om, none⟩) M.length c2 := ha 9 (by decide)
      exact opStep_val (by simp [execOp, e9, go_sem]) rfl
     case s11 =>
      intro w' ev hE hk ha hc hf
      have e47 : ev (.tmp 47) = .slice (some ⟨gm, om, none⟩) M.length c2 := hk.1 _ rfl
      exact opStep_val (by simp [execOp, e47, hc, i0, i00, go_sem]) rfl
     case s12 =>
      intro w' ev hE hk ha hc hf
      have e48 : ev (.tmp 48) = .pointer (some ⟨gm, om, none⟩) := hk.1 _ rfl
      have c0 : w'.cell? ⟨gm, om, none⟩ = some (.int .i64 (y 0)) := hE.cellv y0.out
      have c1 : w'.cell? ⟨gm, om + 1, none⟩ = some (.int .i64 (y 1)) := hE.cellv y1.out
      have c2 : w'.cell? ⟨gm, om + 2, none⟩ = some (.int .i64 (y 2)) := hE.cellv y2.out
      have c3 : w'.cell? ⟨gm, om + 3, none⟩ = some (.int .i64 (y 3)) := hE.cellv y3.out
      have c4 : w'.cell? ⟨gm, om + 4, none⟩ = some (.int .i64 (y 4)) := hE.cellv y4.out
      have c5 : w'.cell? ⟨gm, om + 5, none⟩ = some (.int .i64 (y 5)) := hE.cellv y5.out
      have c6 : w'.cell? ⟨gm, om + 6, none⟩ = some (.int .i64 (y 6)) := hE.cellv y6.out
      have c7 : w'.cell? ⟨gm, om + 7, none⟩ = some (.int .i64 (y 7)) := hE.cellv y7.out
      exact opStep_val (by simp [execOp, e48, c0, c1, c2, c3, c4, c5, c6, c7, go_sem]) rfl
     case s13 =>
      intro w' ev hE hk ha hc hf
      have e9 : ev (.tmp 9) = .slice (some ⟨gm, om, none⟩) M.length c2 := ha 9 (by decide)
      exact opStep_val (by simp [execOp, e9, go_sem]) rfl
     case s14 =>
      intro w' ev hE hk ha hc hf
      have e11 : ev (.tmp 11) = .int .i64 (k : Int) := ha 11 (by decide)
      exact opStep_val (by simp [execOp, e11, go_sem]) rfl
     case s15 =>
      intro w' ev hE hk ha hc hf
      have e50 : ev (.tmp 50) = .slice (some ⟨gm, om, none⟩) M.length c2 := hk.1 _ rfl
      have e51 : ev (.tmp 51) = .int .i64 (k : Int) := hk.2.1 _ rfl
      exact opStep_val (by simp [execOp, e50, e51, i1, go_sem]) rfl
     case s16 =>
      intro w' ev hE hk ha hc hf
      have e52 : ev (.tmp 52) = .pointer (some ⟨gm, om + k * 8, none⟩) := hk.1 _ rfl
      have c0 : w'.cell? ⟨gm, om + k * 8, none⟩ = some (.int .i64 (x 0)) := hE.cellv x0.out
      have c1 : w'.cell? ⟨gm, om + k * 8 + 1, none⟩ = some (.int .i64 (x 1)) := hE.cellv x1.out
      have c2 : w'.cell? ⟨gm, om + k * 8 + 2, none⟩ = some (.int .i64 (x 2)) := hE.cellv x2.out
      have c3 : w'.cell? ⟨gm, om + k * 8 + 3, none⟩ = some (.int .i64 (x 3)) := hE.cellv x3.out
      have c4 : w'.cell? ⟨gm, om + k * 8 + 4, none⟩ = some (.int .i64 (x 4)) := hE.cellv x4.out
      have c5 : w'.cell? ⟨gm, om + k * 8 + 5, none⟩ = some (.int .i64 (x 5)) := hE.cellv x5.out
      have c6 : w'.cell? ⟨gm, om + k * 8 + 6, none⟩ = some (.int .i64 (x 6)) := hE.cellv x6.out
      have c7 : w'.cell? ⟨gm, om + k * 8 + 7, none⟩ = some (.int .i64 (x 7)) := hE.cellv x7.out
      exact opStep_val (by simp [execOp, e52, c0, c1, c2, c3, c4, c5, c6, c7, go_sem]) rfl
     case s17 =>
      intro w' ev hE hk ha hc hf
      have e46 : ev (.tmp 46) = .slice A R.length c := hk.1 _ rfl
      have e49 : ev (.tmp 49) = .agg #[.int .i64 (y 0), .int .i64 (y 1), .int .i64 (y 2), .int .i64 (y 3), .int .i64 (y 4), .int .i64 (y 5), .int .i64 (y 6), .int .i64 (y 7)] := hk.2.1 _ rfl
      have e53 : ev (.tmp 53) = .agg #[.int .i64 (x 0), .int .i64 (x 1), .int .i64 (x 2), .int .i64 (x 3), .int .i64 (x 4), .int .i64 (x 5), .int .i64 (x 6), .int .i64 (x 7)] := hk.2.2.1 _ rfl
      refine opStep_call (by simp [execOp, resolve, invoke, hf, e46, e49, e53, go_sem]) (RCmp_any _ R y x _ (hO.out.ext (hI.out.trans ((Ext.refl _).drew.trans hE))) hR.out hyB.out hxB.out) ?_
      rintro e w1 ⟨rfl, hE1⟩
      exact ⟨_, rfl, hE1, rfl⟩
     case s18 =>
      intro w' ev hE hk ha hc hf
      have e45 : ev (.tmp 45) = .int .i64 (oCmp R y x) := hk.1 _ rfl
      have e54 : ev (.tmp 54) = .int .i64 (oCmp R y x) := hk.2.1 _ rfl
      exact opStep_val (by simp [execOp, e45, e54, go_sem]) rfl
    case fin =>
     intro gf w' hE hF
     have e18 := hF 18 _ rfl
     simp only [List.length_cons, List.length_nil, Nat.reduceAdd, List.drop_succ_cons, List.drop_zero, List.take_succ_cons, List.take_zero, putG, Act.put, List.setIfInBounds_toArray, List.set_cons_succ, List.set_cons_zero, e18]
     replace hE := hide ((Ext.refl wr).drew.trans hE)
     clear hF e18 i0 i1 i00
     go_wp2
     exact ⟨⟨k + 1, hlt, by simp, hI.out.trans hE.out⟩, by simp [intOf]; omega⟩
   ·obtain rfl : k = M.length := by omega
    have hd1 : decide (M.length < M.length) = false := by simp
    have hc5' : wr.cell? ⟨B5, 1, none⟩ = some (.int .u16 (k1 : Int)) := hI.out.cellv hc5
    replace hc5 := hc5'
    clear hc5'
    go_wp2_with fail
    refine (Shuffle_any k1 _ hk1).mono ?_
    rintro e w5 ⟨p, hp1, hp2, rfl, hE⟩
    replace hO := hide (hO.out.ext (hI.out.trans hE))
    replace hM := hide (hM.out.ext (hI.out.trans hE))
    replace hEw := hide (hEw.out.trans (hI.out.trans hE))
    clear hE hI hd1 hb5 hc5 hp1 hp2
    generalize castP p = a at *
    obtain ⟨n1, S1, hfull⟩ := full_says R
    obtain ⟨n2, S2, hperm⟩ := perm_says R a
    replace hfull := hide hfull
    replace hperm := hide hperm
    have ha1 := hide (alike_self S1)
    have ha2 := hide (alike_self S2)
    have hB : Hid (Blk (w5.alloc (.cells #[.int .i64 (a 0), .int .i64 (a 1), .int .i64 (a 2), .int .i64 (a 3), .int .i64 (a 4), .int .i64 (a 5), .int .i64 (a 6), .int .i64 (a 7)] 35)) w5.heap.size 35 (c8 a)) := Blk.new _ _ _
    have hEx : Hid (Ext w5 (w5.alloc (.cells #[.int .i64 (a 0), .int .i64 (a 1), .int .i64 (a 2), .int .i64 (a 3), .int .i64 (a 4), .int .i64 (a 5), .int .i64 (a 6), .int .i64 (a 7)] 35))) := (Ext.refl w5).alloc _
    replace hO := hide (hO.out.ext hEx.out)
    replace hM := hide (hM.out.ext hEx.out)
    replace hEw := hide (hEw.out.trans hEx.out)
    clear hEx
    go_wp2_with fail
    generalize (w5.alloc (.cells #[.int .i64 (a 0), .int .i64 (a 1), .int .i64 (a 2), .int .i64 (a 3), .int .i64 (a 4), .int .i64 (a 5), .int .i64 (a 6), .int .i64 (a 7)] 35)) = w6 at *
    generalize w5.heap.size = B at *
    refine ((hfull.out _ _ hO.out.in_).1).mono ?_
    rintro e w7 ⟨A1, c1, rfl, hO1, hE⟩
    replace hO1 := hide hO1
    replace hO := hide (hO.out.ext hE)
    replace hM := hide (hM.out.ext hE)
    replace hB := hide (hB.out.ext hE)
    replace hEw := hide (hEw.out.trans hE)
    clear hE
    go_wp2_with fail
    refine ((hfull.out _ _ hO.out.in_).2).mono ?_
    rintro e w8 ⟨A2, c2, rfl, hO2, hE⟩
    replace hO2 := hide hO2
    replace hO := hide (hO.out.ext hE)
    replace hM := hide (hM.out.ext hE)
    replace hB := hide (hB.out.ext hE)
    replace hO1 := hide (hO1.out.ext hE)
    replace hEw := hide (hEw.out.trans hE)
    clear hE
    have q0 : (w8).cell? ⟨B, 0, none⟩ = some (.int .i64 (a 0)) := (hB.out).cell 0
    have q1 : (w8).cell? ⟨B, 1, none⟩ = some (.int .i64 (a 1)) := (hB.out).cell 1
    have q2 : (w8).cell? ⟨B, 2, none⟩ = some (.int .i64 (a 2)) := (hB.out).cell 2
    have q3 : (w8).cell? ⟨B, 3, none⟩ = some (.int .i64 (a 3)) := (hB.out).cell 3
    have q4 : (w8).cell? ⟨B, 4, none⟩ = some (.int .i64 (a 4)) := (hB.out).cell 4
    have q5 : (w8).cell? ⟨B, 5, none⟩ = some (.int .i64 (a 5)) := (hB.out).cell 5
    have q6 : (w8).cell? ⟨B, 6, none⟩ = some (.int .i64 (a 6)) := (hB.out).cell 6
    have q7 : (w8).cell? ⟨B, 7, none⟩ = some (.int .i64 (a 7)) := (hB.out).cell 7
    go_wp2_with fail
    refine ((hperm.out _ _ hO.out.in_).1).mono ?_
    rintro e w9 ⟨A3, c3, rfl, hO3, hE⟩
    replace hO3 := hide hO3
    replace hO := hide (hO.out.ext hE)
    replace hM := hide (hM.out.ext hE)
    replace hB := hide (hB.out.ext hE)
    replace hO1 := hide (hO1.out.ext hE)
    replace hO2 := hide (hO2.out.ext hE)
    replace hEw := hide (hEw.out.trans hE)
    clear hE
    clear q0 q1 q2 q3 q4 q5 q6 q7
    have q0 : (w9).cell? ⟨B, 0, none⟩ = some (.int .i64 (a 0)) := (hB.out).cell 0
    have q1 : (w9).cell? ⟨B, 1, none⟩ = some (.int .i64 (a 1)) := (hB.out).cell 1
    have q2 : (w9).cell? ⟨B, 2, none⟩ = some (.int .i64 (a 2)) := (hB.out).cell 2
    have q3 : (w9).cell? ⟨B, 3, none⟩ = some (.int .i64 (a 3)) := (hB.out).cell 3
    have q4 : (w9).cell? ⟨B, 4, none⟩ = some (.int .i64 (a 4)) := (hB.out).cell 4
    have q5 : (w9).cell? ⟨B, 5, none⟩ = some (.int .i64 (a 5)) := (hB.out).cell 5
    have q6 : (w9).cell? ⟨B, 6, none⟩ = some (.int .i64 (a 6)) := (hB.out).cell 6
    have q7 : (w9).cell? ⟨B, 7, none⟩ = some (.int .i64 (a 7)) := (hB.out).cell 7
    go_wp2_with fail
    refine ((hperm.out _ _ hO.out.in_).2).mono ?_
    rintro e w10 ⟨A4, c4, rfl, hO4, hE⟩
    replace hO4 := hide hO4
    replace hO := hide (hO.out.ext hE)
    replace hM := hide (hM.out.ext hE)
    replace hO1 := hide (hO1.out.ext hE)
    replace hO2 := hide (hO2.out.ext hE)
    replace hO3 := hide (hO3.out.ext hE)
    replace hEw := hide (hEw.out.trans hE)
    clear hE
    clear q0 q1 q2 q3 q4 q5 q6 q7
    clear hB
    go_wp2_with fail
    refine (Same_any _ _ S1 S1 _ hO1.out hO2.out).mono ?_
    rw [ha1.out]
    rintro e w11 ⟨rfl, hE⟩
    replace hO := hide (hO.out.ext hE)
    replace hM := hide (hM.out.ext hE)
    replace hO3 := hide (hO3.out.ext hE)
    replace hO4 := hide (hO4.out.ext hE)
    replace hEw := hide (hEw.out.trans hE)
    clear hE
    go_wp2_with fail
    refine (Same_any _ _ S2 S2 _ hO3.out hO4.out).mono ?_
    rw [ha2.out]
    rintro e w12 ⟨rfl, hE⟩
    replace hO := hide (hO.out.ext hE)
    replace hM := hide (hM.out.ext hE)
    replace hEw := hide (hEw.out.trans hE)
    clear hE
    go_wp2_with fail
    refine (Sort_any _ _ R M _ hO.out hR.out hM.out hMb.out (by omega)).mono ?_
    rintro e w13 ⟨T1, hT1, A5, c5, rfl, hP1, hE⟩
    replace hT1 := hide hT1
    replace hP1 := hide hP1.rows
    replace hO := hide (hO.out.ext hE)
    replace hM := hide (hM.out.ext hE)
    replace hEw := hide (hEw.out.trans hE)
    clear hE
    go_wp2_with fail
    refine (RSort_any _ _ R M _ hO.out hR.out hM.out hMb.out (by omega)).mono ?_
    rintro e w14 ⟨T2, hT2, A6, c6, rfl, hP2, hE⟩
    have hal : Hid (alikeB T1 T2 = true) := sorts_alike hT1.out hT2
    replace hP2 := hide hP2
    clear hT2
    replace hO := hide (hO.out.ext hE)
    replace hM := hide (hM.out.ext hE)
    replace hP1 := hide (hP1.out.ext hE)
    replace hEw := hide (hEw.out.trans hE)
    clear hE
    go_wp2_with fail
    refine (alike_any _ _ T1 T2 _ hP1.out hP2.out).mono ?_
    rw [hal.out]
    rintro e w15 ⟨rfl, hE⟩
    replace hO := hide (hO.out.ext hE)
    replace hEw := hide (hEw.out.trans hE)
    clear hE
    go_wp2_with fail
    refine (Eliminates_any _ R m _ hO.out hR.out hm8).mono ?_
    rintro e w16 ⟨rfl, hE⟩
    replace hO := hide (hO.out.ext hE)
    replace hEw := hide (hEw.out.trans hE)
    clear hE
    go_wp2_with fail
    refine (REliminates_any _ R m _ hO.out hR.out hm8).mono ?_
    rintro e w17 ⟨rfl, hE⟩
    generalize elimB R m = bb at *
    replace hEw := hide (hEw.out.trans hE)
    clear hE
    go_wp2_with fail
    refine (Lex_any _).mono ?_
    rintro e w18 ⟨A7, c7, rfl, hQ1, hE⟩
    replace hQ1 := hide hQ1.rows
    replace hEw := hide (hEw.out.trans hE)
    clear hE
    go_wp2_with fail
    refine (RLex_any _).mono ?_
    rintro e w19 ⟨A8, c8, rfl, hQ2, hE⟩
    replace hQ2 := hide hQ2.rows
    replace hQ1 := hide (hQ1.out.ext hE)
    replace hEw := hide (hEw.out.trans hE)
    clear hE
    go_wp2_with fail
    refine (Same_any _ _ [] [] _ hQ1.out hQ2.out).mono ?_
    rw [alike_self []]
    rintro e w20 ⟨rfl, hE⟩
    replace hEw := hide (hEw.out.trans hE)
    clear hE
    clear hQ1 hQ2
    go_wp2_with fail
    refine (Graded_any _).mono ?_
    rintro e w21 ⟨A7, c7, rfl, hQ1, hE⟩
    replace hQ1 := hide hQ1.rows
    replace hEw := hide (hEw.out.trans hE)
    clear hE
    go_wp2_with fail
    refine (RGraded_any _).mono ?_
    rintro e w22 ⟨A8, c8, rfl, hQ2, hE⟩
    replace hQ2 := hide hQ2.rows
    replace hQ1 := hide (hQ1.out.ext hE)
    replace hEw := hide (hEw.out.trans hE)
    clear hE
    go_wp2_with fail
    refine (Same_any _ _ [onesOf 255] [onesOf 255] _ hQ1.out hQ2.out).mono ?_
    rw [alike_self [onesOf 255]]
    rintro e w23 ⟨rfl, hE⟩
    replace hEw := hide (hEw.out.trans hE)
    clear hE
    clear hQ1 hQ2
    go_wp2_with fail
    refine (Reverse_any _).mono ?_
    rintro e w24 ⟨A7, c7, rfl, hQ1, hE⟩
    replace hQ1 := hide hQ1.rows
    replace hEw := hide (hEw.out.trans hE)
    clear hE
    go_wp2_with fail
    refine (RReverse_any _).mono ?_
    rintro e w25 ⟨A8, c8, rfl, hQ2, hE⟩
    replace hQ2 := hide hQ2.rows
    replace hQ1 := hide (hQ1.out.ext hE)
    replace hEw := hide (hEw.out.trans hE)
    clear hE
    go_wp2_with fail
    refine (Same_any _ _ revRows revRows _ hQ1.out hQ2.out).mono ?_
    rw [alike_self revRows]
    rintro e w26 ⟨rfl, hE⟩
    replace hEw := hide (hEw.out.trans hE)
    clear hE
    clear hQ1 hQ2
    go_wp2_with fail
    refine (Eliminating_any m _ hm8).mono ?_
    rintro e w27 ⟨A7, c7, rfl, hQ1, hE⟩
    replace hQ1 := hide hQ1.rows
    replace hEw := hide (hEw.out.trans hE)
    clear hE
    go_wp2_with fail
    refine (REliminating_any m _ hm8).mono ?_
    rintro e w28 ⟨A8, c8, rfl, hQ2, hE⟩
    replace hQ2 := hide hQ2.rows
    replace hQ1 := hide (hQ1.out.ext hE)
    replace hEw := hide (hEw.out.trans hE)
    clear hE
    go_wp2_with fail
    refine (Same_any _ _ (onesOf m :: revRows) (onesOf m :: revRows) _ hQ1.out hQ2.out).mono ?_
    rw [alike_self (onesOf m :: revRows)]
    rintro e w29 ⟨rfl, hE⟩
    replace hEw := hide (hEw.out.trans hE)
    clear hE
    clear hQ1 hQ2
    go_wp2
    go_ret
    exact ⟨rfl, hEw.out⟩

end Go.Proofs.YteefhmdameeoaaaGreat
