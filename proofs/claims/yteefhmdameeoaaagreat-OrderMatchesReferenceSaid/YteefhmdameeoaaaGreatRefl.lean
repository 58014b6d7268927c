/-
  Contracts of the reference's orders: Eliminates, Valid, Permutation.
-/
import Derived.Test.YteefhmdameeoaaaGreatRefk
set_option linter.unusedSimpArgs false
set_option linter.unusedVariables false
namespace Go.Proofs.YteefhmdameeoaaaGreat
open Go.RowKit

theorem pow_ne (R : List (Nat → Int)) {k j : Nat} (hk : k < 8) (hkj : k ≠ j) : oCmp R (powOf k 1) (powOf j 65535) ≠ 0 := fun h => by
  have := oCmp_zero.1 h k hk
  simp [powOf, hkj] at this
set_option maxRecDepth 100000 in
set_option maxHeartbeats 1600000 in
theorem REliminates_any (v : Value) (R : List (Nat → Int)) (m : Nat) (w : World) (h : RowsAt .i64 35 w v R) (hR : ∀ r ∈ R, In8 r (-1000) 1000) (hm : m < 256) :
    Calls Tryz.prog 20 #[v, .int .u8 m] w fun e w' => e = .returned (.bool (elimB R m)) ∧ Ext w w' := by
  replace h := hide h
  replace hR := hide hR
  go_enter Tryz.func20, Tryz.ntmps20
  go_wp2
  go_loopw [5] (fun i wr => ∃ k : Nat, k ≤ 8 ∧ i = .int .i64 k ∧ Hid (ElimTo R m k ∧ Ext w wr)) (fun i _ => 8 - (intOf i).toNat)
  case atStart => exact ⟨0, by omega, rfl, fun i j h => by omega, Ext.refl _⟩
  case round =>
    obtain ⟨k, hk, rfl, hI⟩ := hrel
    by_cases hlt : k < 8
    · have hd8 : decide ((k : Int) < 8) = true := by simp; omega
      go_wp2
      go_loopw [6] (fun i wr => ∃ j : Nat, j ≤ 8 ∧ i = .int .i64 j ∧ Hid (ElimRow R m k j ∧ Ext w wr)) (fun i _ => 8 - (intOf i).toNat)
      case atStart => exact ⟨0, by omega, rfl, fun j' h => by omega, hI.out.2⟩
      case round =>
        obtain ⟨j, hj, rfl, hJ⟩ := hrel
        by_cases hj8 : j < 8
        · have hgood : Hid ((m.testBit k = true → m.testBit j = false → 0 < oCmp R (powOf k 1) (powOf j 65535)) → ElimRow R m k (j + 1)) := fun hg j' h' => by
            by_cases e : j' = j
            · rw [e]; exact hg
            · exact hJ.out.1 j' (by omega)
          have hbad : Hid (m.testBit k = true → m.testBit j = false → ¬ 0 < oCmp R (powOf k 1) (powOf j 65535) → elimB R m = false) := fun h1 h2 h3 => elimB_false fun he => h3 (he k j hlt hj8 h1 h2)
          have hdj : decide ((j : Int) < 8) = true := by simp; omega
          go_wp2_with fail
          refine (In_any m k _ hm hlt).mono ?_
          rintro e _ ⟨rfl, rfl⟩
          cases hk1 : m.testBit k with
          | false =>
            have hg := hide (hgood.out fun h => by rw [hk1] at h; cases h)
            clear hk1 hgood hbad
            go_wp2
            exact ⟨⟨j + 1, hj8, by simp, hg.out, hJ.out.2⟩, by simp [intOf]; omega⟩
          | true =>
            replace hk1 := hide hk1
            go_wp2_with fail
            refine (In_any m j _ hm hj8).mono ?_
            rintro e _ ⟨rfl, rfl⟩
            cases hj1 : m.testBit j with
            | true =>
              have hg := hide (hgood.out fun _ h => by rw [hj1] at h; cases h)
              clear hgood hbad hj1
              go_wp2
              exact ⟨⟨j + 1, hj8, by simp, hg.out, hJ.out.2⟩, by simp [intOf]; omega⟩
            | false =>
              have hg := hide fun h : 0 < oCmp R (powOf k 1) (powOf j 65535) => hgood.out fun _ _ => h
              have hbd := hide (hbad.out hk1.out hj1)
              have hkj : k ≠ j := fun e => by have := hk1.out; rw [e, hj1] at this; cases this
              have hnz := hide (pow_ne R hlt hkj)
              replace hj1 := hide hj1
              clear hgood hbad hkj
              go_wp2_with fail
              refine (Power_any k 1 _ hlt).mono ?_
              rintro e w1 ⟨rfl, hE1⟩
              have hE1' := hide (hJ.out.2.trans hE1)
              clear hE1
              go_wp2_with fail
              refine (Power_any j 65535 _ hj8).mono ?_
              rintro e w2 ⟨rfl, hE2⟩
              have hE2' := hide (hE1'.out.trans hE2)
              have hRw := hide (h.out.ext hE2'.out)
              clear hE2 hE1'
              go_wp2_with fail
              refine (RCmp_any v R (powOf k 1) (powOf j 65535) _ hRw.out hR.out (powOf_in _ (by omega) (by omega)) (powOf_in _ (by omega) (by omega))).mono ?_
              rintro e w5 ⟨rfl, hE5⟩
              have hE6 := hide (hE2'.out.trans hE5)
              clear hE5 hE2' hRw
              generalize oCmp R (powOf k 1) (powOf j 65535) = n at *
              generalize powOf k 1 = pk at *
              generalize powOf j 65535 = pj at *
              by_cases hn : n < 0
              · go_wp2
                go_ret
                exact ⟨by rw [hbd.out (by omega)]; rfl, hE6.out⟩
              · go_wp2
                exact ⟨⟨j + 1, hj8, by simp, hg.out (by have := hnz.out; omega), hE6.out⟩, by simp [intOf]; omega⟩
        · obtain rfl : j = 8 := by omega
          have hdj : decide (((8 : Nat) : Int) < 8) = false := by simp
          go_wp2
          refine ⟨⟨k + 1, hlt, by simp, fun i' j' h1 h2 h3 h4 => ?_, hJ.out.2⟩, by simp [intOf]; omega⟩
          by_cases e : i' = k
          · subst e; exact hJ.out.1 j' h2 h3 h4
          · exact hI.out.1 i' j' (by omega) h2 h3 h4
    · obtain rfl : k = 8 := by omega
      have hT : Hid (elimB R m = true) := elimB_true fun i j h1 h2 => hI.out.1 i j h1 h2
      have hd8 : decide (((8 : Nat) : Int) < 8) = false := by simp
      go_wp2
      go_ret
      exact ⟨by rw [hT.out]; rfl, hI.out.2⟩

theorem RowsAt.in_ {κ : IntKind} {t : TypeId} {w : World} {v : Value} {R : List (Nat → Int)} (h : RowsAt κ t w v R) : RowsIn κ w v R := h.open_
theorem seen_first (R : List (Nat → Int)) (j : Nat) : ∀ n, seenTo R n j = (firstTo R j n != 0)
  | 0 => rfl
  | n + 1 => by
    rw [seenTo, firstTo, seen_first R j n]
    by_cases h : firstTo R j n = 0
    · simp [h]
    · simp [h]
theorem first_pos (R : List (Nat → Int)) (j : Nat) : ∀ n, 0 ≤ firstTo R j n ↔ ∀ k, k < n → rowAt R k j < 0 → seenTo R k j = true
  | 0 => ⟨fun _ k h => by omega, fun _ => Int.le_refl 0⟩
  | n + 1 => by
    rw [firstTo]
    by_cases h : firstTo R j n = 0
    · rw [if_pos h]
      have ih := (first_pos R j n).1 (by omega)
      constructor
      · intro h1 k hk h2
        by_cases e : k = n
        · subst e; omega
        · exact ih k (by omega) h2
      · intro h1
        apply Classical.byContradiction
        intro h2
        have := h1 n (by omega) (by omega)
        rw [seen_first, h] at this
        cases this
    · rw [if_neg h]
      constructor
      · intro h1 k hk h2
        by_cases e : k = n
        · subst e; rw [seen_first]; simpa using h
        · exact (first_pos R j n).1 h1 k (by omega) h2
      · intro h1
        exact (first_pos R j n).2 fun k hk => h1 k (by omega)
theorem valid_first {R : List (Nat → Int)} : OValid R ↔ R.length ≤ 24 ∧ ∀ j, j < 8 → (∀ k, k < R.length → -1000 ≤ rowAt R k j ∧ rowAt R k j ≤ 1000) ∧ 0 ≤ firstTo R j R.length := by
  constructor
  · rintro ⟨h1, h2⟩
    refine ⟨h1, fun j hj => ⟨fun k hk => ⟨(h2 k j hk hj).1, (h2 k j hk hj).2.1⟩, (first_pos R j _).2 fun k hk => (h2 k j hk hj).2.2⟩⟩
  · rintro ⟨h1, h2⟩
    exact ⟨h1, fun k j hk hj => ⟨((h2 j hj).1 k hk).1, ((h2 j hj).1 k hk).2, (first_pos R j _).1 (h2 j hj).2 k hk⟩⟩
set_option maxRecDepth 100000 in
set_option maxHeartbeats 1600000 in
theorem RValid_any (v : Value) (R : List (Nat → Int)) (w : World) (h : RowsIn .i64 w v R) :
    Calls Tryz.prog 30 #[v] w fun e w' => e = .returned (.bool (ovB R)) ∧ Ext w w' := by
  obtain ⟨A, c, rfl, hc, hm, hx⟩ := h
  replace hx := hide hx
  have hlX : R.length ≤ 9223372036854775807 := by omega
  clear hc hm
  by_cases hlen : 24 < R.length
  · have hF : Hid (ovB R = false) := ovB_false fun h => by have := h.1; omega
    go_enter Tryz.func30, Tryz.ntmps30
    go_wp2
    go_ret
    exact ⟨by rw [hF.out]; rfl, Ext.refl _⟩
  · go_enter Tryz.func30, Tryz.ntmps30
    go_wp2
    go_loopw [3] (fun i wr => ∃ j : Nat, j ≤ 8 ∧ i = .int .i64 j ∧ Hid ((∀ j', j' < j → (∀ k, k < R.length → -1000 ≤ rowAt R k j' ∧ rowAt R k j' ≤ 1000) ∧ 0 ≤ firstTo R j' R.length) ∧ Ext w wr)) (fun i _ => 8 - (intOf i).toNat)
    case atStart => exact ⟨0, by omega, rfl, fun j' h => by omega, Ext.refl _⟩
    case round =>
      obtain ⟨j, hj, rfl, hI⟩ := hrel
      by_cases hj8 : j < 8
      · have hd8 : decide ((j : Int) < 8) = true := by simp; omega
        go_wp2
        go_loopw [4, 5] (fun f i wr => ∃ k : Nat, k ≤ R.length ∧ i = .int .i64 k ∧ f = .int .i64 (firstTo R j k) ∧ Hid ((∀ k', k' < k → -1000 ≤ rowAt R k' j ∧ rowAt R k' j ≤ 1000) ∧ Ext w wr)) (fun _ i _ => R.length - (intOf i).toNat)
        case atStart => exact ⟨0, by omega, rfl, rfl, fun k' h => by omega, hI.out.2⟩
        case round =>
          obtain ⟨k, hk, rfl, rfl, hJ⟩ := hrel
          by_cases hlt : k < R.length
          · obtain ⟨g, o, rfl, hgl, hcl⟩ := hx.out (by omega)
            have hcx : wr.cell? ⟨g, o + k * 8 + j, none⟩ = some (.int .i64 (rowAt R k j)) := hJ.out.2.cellv (hcl k j hlt hj8)
            have hs : Hid (firstTo R j (k + 1) = if firstTo R j k = 0 then rowAt R k j else firstTo R j k) := rfl
            have hbad : Hid (¬ (-1000 ≤ rowAt R k j ∧ rowAt R k j ≤ 1000) → ovB R = false) := fun hn => ovB_false fun hv => hn (((valid_first.1 hv).2 j hj8).1 k hlt)
            have hgood : Hid ((-1000 ≤ rowAt R k j ∧ rowAt R k j ≤ 1000) → ∀ k', k' < k + 1 → -1000 ≤ rowAt R k' j ∧ rowAt R k' j ≤ 1000) := fun hg k' h' => by
              by_cases e : k' = k
              · rw [e]; exact hg
              · exact hJ.out.1 k' (by omega)
            have hdl : decide (k < R.length) = true := by simpa using hlt
            clear hcl
            generalize rowAt R k j = x at *
            generalize firstTo R j k = f at *
            by_cases h1 : x < -1000
            · have h1' : decide (x < -1000) = true := by simpa using h1
              go_wp2
              go_ret
              exact ⟨by rw [hbad.out fun h => by omega]; rfl, hJ.out.2⟩
            · have h1' : decide (x < -1000) = false := by simpa using h1
              by_cases h2 : 1000 < x
              · have h2' : decide (1000 < x) = true := by simpa using h2
                go_wp2
                go_ret
                exact ⟨by rw [hbad.out fun h => by omega]; rfl, hJ.out.2⟩
              · have h2' : decide (1000 < x) = false := by simpa using h2
                have hg := hide (hgood.out ⟨by omega, by omega⟩)
                clear hgood hbad
                by_cases hf : f = 0
                · have hs' := hs.out
                  rw [if_pos hf] at hs'
                  replace hs' := hide hs'
                  subst hf
                  clear hs
                  go_wp2
                  exact ⟨⟨k + 1, hlt, by simp, by rw [hs'.out], hg.out, hJ.out.2⟩, by simp [intOf]; omega⟩
                · have hs' := hs.out
                  rw [if_neg hf] at hs'
                  replace hs' := hide hs'
                  have hf' : (f == 0) = false := by simpa using hf
                  clear hs
                  go_wp2
                  exact ⟨⟨k + 1, hlt, by simp, by rw [hs'.out], hg.out, hJ.out.2⟩, by simp [intOf]; omega⟩
          · obtain rfl : k = R.length := by omega
            have hbad : Hid (firstTo R j R.length < 0 → ovB R = false) := fun hn => ovB_false fun hv => by have := ((valid_first.1 hv).2 j hj8).2; omega
            have hgood : Hid (¬ firstTo R j R.length < 0 → ∀ j', j' < j + 1 → (∀ k, k < R.length → -1000 ≤ rowAt R k j' ∧ rowAt R k j' ≤ 1000) ∧ 0 ≤ firstTo R j' R.length) := fun hn j' h' => by
              by_cases e : j' = j
              · rw [e]; exact ⟨hJ.out.1, by omega⟩
              · exact hI.out.1 j' (by omega)
            have hdl : decide (R.length < R.length) = false := by simp
            generalize firstTo R j R.length = f at *
            by_cases hf : f < 0
            · have hf' : decide (f < 0) = true := by simpa using hf
              go_wp2
              go_ret
              exact ⟨by rw [hbad.out hf]; rfl, hJ.out.2⟩
            · have hf' : decide (f < 0) = false := by simpa using hf
              go_wp2
              exact ⟨⟨j + 1, hj8, by simp, hgood.out hf, hJ.out.2⟩, by simp [intOf]; omega⟩
      · obtain rfl : j = 8 := by omega
        have hT : Hid (ovB R = true) := ovB_true (valid_first.2 ⟨by omega, hI.out.1⟩)
        have hd8 : decide (((8 : Nat) : Int) < 8) = false := by simp
        go_wp2
        go_ret
        exact ⟨by rw [hT.out]; rfl, hI.out.2⟩

/-- The k-th number of a list is fine for a permutation. -/
def OkP (a : Nat → Int) (k : Nat) : Prop := 0 ≤ a k ∧ a k ≤ 7 ∧ ∀ j, j < k → a j ≠ a k
def GoodP (a : Nat → Int) : Prop := ∀ k, k < 8 → OkP a k
open Classical in
noncomputable def permB (a : Nat → Int) : Bool := decide (GoodP a)
theorem permB_true {a : Nat → Int} (h : GoodP a) : permB a = true := by simp [permB, h]
theorem permB_false {a : Nat → Int} (h : ¬ GoodP a) : permB a = false := by simp [permB, h]
def natP (a : Nat → Int) (i : Nat) : Nat := (a i).toNat
theorem GoodP.isPerm {a : Nat → Int} (h : GoodP a) : IsPerm (natP a) := by
  have key : ∀ i j, i < 8 → j < 8 → natP a i = natP a j → ¬ i < j := fun i j hi hj he hlt => by
    have h1 := h i hi
    have h2 := h j hj
    have := h2.2.2 i hlt
    unfold natP at he
    have := h1.1
    have := h2.1
    omega
  refine ⟨fun i hi => ?_, fun i j hi hj he => ?_⟩
  · have := h i hi
    unfold natP
    have := this.2.1
    omega
  · have := key i j hi hj he
    have := key j i hj hi he.symm
    omega
theorem GoodP.cast {a : Nat → Int} (h : GoodP a) : ∀ i, i < 8 → a i = castP (natP a) i := fun i hi => by
  have := (h i hi).1
  unfold castP natP
  omega
theorem met_ok {a : Nat → Int} {k : Nat} (hk : k < 8) (h : ∀ i, i < k → OkP a i) (h0 : 0 ≤ a k) (h7 : a k ≤ 7) : OkP a k ↔ metTo (natP a) k (a k).toNat = false := by
  unfold OkP metTo
  rw [List.any_eq_false]
  constructor
  · rintro ⟨_, _, h1⟩ i hi
    rw [List.mem_range] at hi
    have h2 := h1 i hi
    have h3 := (h i hi).1
    simp [natP]
    omega
  · intro h1
    refine ⟨h0, h7, fun j hj he => ?_⟩
    have := h1 j (List.mem_range.2 hj)
    simp [natP, he] at this
set_option maxRecDepth 100000 in
set_option maxHeartbeats 1600000 in
theorem RPermutation_any (a : Nat → Int) (w : World) :
    Calls Tryz.prog 41 #[.agg #[.int .i64 (a 0), .int .i64 (a 1), .int .i64 (a 2), .int .i64 (a 3), .int .i64 (a 4), .int .i64 (a 5), .int .i64 (a 6), .int .i64 (a 7)]] w fun e w' => e = .returned (.bool (permB a)) ∧ Ext w w' := by
  go_enter Tryz.func41, Tryz.ntmps41
  go_wp2
  go_loopw [4] (fun i wr => ∃ k : Nat, k ≤ 8 ∧ i = .int .i64 k ∧ Hid ((∀ i, i < k → OkP a i) ∧ Blk wr w.heap.size 35 (c8 a) ∧ Blk wr (w.heap.size + 1) 64 (cb8 (metTo (natP a) k)) ∧ Ext w wr)) (fun i _ => 8 - (intOf i).toNat)
  case atStart => exact ⟨0, by omega, rfl, fun i h => by omega, (Blk.new _ _ _).alloc _, Blk.new' _ _ (by simp), ((Ext.refl _).alloc _).alloc _⟩
  case round =>
    obtain ⟨k, hk, rfl, hI⟩ := hrel
    by_cases hlt : k < 8
    · have hd8 : decide ((k : Int) < 8) = true := by simp; omega
      have hbad : Hid (¬ OkP a k → permB a = false) := fun hn => permB_false fun h => hn (h k hlt)
      have hgood : Hid (OkP a k → ∀ i, i < k + 1 → OkP a i) := fun hg i h' => by
        by_cases e : i = k
        · rw [e]; exact hg
        · exact hI.out.1 i (by omega)
      have hok0 : Hid (OkP a k → 0 ≤ a k ∧ a k ≤ 7) := fun h => ⟨h.1, h.2.1⟩
      have xa := hI.out.2.1.at8 hlt
      by_cases h1 : a k < 0
      · generalize a k = x at *
        have h1' : decide (x < 0) = true := by simpa using h1
        go_wp2
        go_ret
        exact ⟨by rw [hbad.out fun h => by have := hok0.out h; omega]; rfl, hI.out.2.2.2⟩
      · by_cases h2 : 7 < a k
        · generalize a k = x at *
          have h1' : decide (x < 0) = false := by simpa using h1
          have h2' : decide (7 < x) = true := by simpa using h2
          go_wp2
          go_ret
          exact ⟨by rw [hbad.out fun h => by have := hok0.out h; omega]; rfl, hI.out.2.2.2⟩
        · have hmet := hide (met_ok hlt hI.out.1 (by omega) (by omega))
          obtain ⟨y, hy⟩ : ∃ y : Nat, a k = y := ⟨(a k).toNat, by omega⟩
          have hy8 : y < 8 := by omega
          have hym : Hid (metTo (natP a) k y = false → OkP a k) := fun h => hmet.out.2 (by rw [hy]; simpa using h)
          have hyn : Hid (metTo (natP a) k y = true → ¬ OkP a k) := fun h hn => by
            have := hmet.out.1 hn
            rw [hy, Int.toNat_natCast, h] at this
            cases this
          have xs : wr.cell? ⟨w.heap.size + 1, y, none⟩ = some (.bool (metTo (natP a) k y)) := hI.out.2.2.1.atb hy8
          have xz := hI.out.2.2.1.frozen y
          have hny : natP a k = y := by unfold natP; omega
          have hset : Hid (Blk (wr.setCell ⟨w.heap.size + 1, y, none⟩ (.bool true)) (w.heap.size + 1) 64 (cb8 (metTo (natP a) (k + 1)))) :=
            hI.out.2.2.1.setb hy8 _ (by rw [metTo_succ, hny]; simp) fun i hi hne => by rw [metTo_succ, hny]; simp [Ne.symm hne]
          clear hmet hny
          rw [hy] at xa
          clear hok0 hy h1 h2
          have h1' : decide ((y : Int) < 0) = false := by simp
          have h2' : decide ((7 : Int) < y) = false := by simp; omega
          cases hs : metTo (natP a) k y with
          | true =>
            have hb := hide (hbad.out (hyn.out hs))
            rw [hs] at xs
            clear hs hym hyn hbad hgood
            go_wp2
            go_ret
            exact ⟨by rw [hb.out]; rfl, hI.out.2.2.2⟩
          | false =>
            have hg := hide (hgood.out (hym.out hs))
            rw [hs] at xs
            clear hs hym hyn hbad hgood
            go_wp2
            exact ⟨⟨k + 1, hlt, by simp, hg.out, hI.out.2.1.far (by dsimp only; omega) _, hset.out, hI.out.2.2.2.set (p := ⟨w.heap.size + 1, y, none⟩) (by dsimp only; omega) _⟩, by simp [intOf]; omega⟩
    · obtain rfl : k = 8 := by omega
      have hT : Hid (permB a = true) := permB_true hI.out.1
      have hd8 : decide (((8 : Nat) : Int) < 8) = false := by simp
      go_wp2
      go_ret
      exact ⟨by rw [hT.out]; rfl, hI.out.2.2.2⟩

end Go.Proofs.YteefhmdameeoaaaGreat
