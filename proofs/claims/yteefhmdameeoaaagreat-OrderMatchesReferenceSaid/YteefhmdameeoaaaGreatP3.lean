/-
  Plain facts for integer.divide.
  The contract of integer.divide.
  The contract of integer.Gcd.
  The contract of integer.DivMod.
  The contract of integer.DivMod: the walk.
-/
import Derived.Test.YteefhmdameeoaaaGreatP2
import Derived.Test.YteefhmdameeoaaaGreatShelf
import Derived.Deep.LoopGhost
set_option linter.unusedSimpArgs false
set_option linter.unusedVariables false
namespace Go.Proofs.YteefhmdameeoaaaGreat
open Go.RowKit

theorem bitLenAux_spec : ∀ (f x : Nat), x < 2 ^ f → x < 2 ^ (Lib.bitLenAux f x) ∧ (x ≠ 0 → 2 ^ (Lib.bitLenAux f x) ≤ 2 * x)
  | 0, x, h => by
    have : x = 0 := by simpa using h
    subst this
    exact ⟨by simp [Lib.bitLenAux], fun h => absurd rfl h⟩
  | f + 1, x, h => by
    unfold Lib.bitLenAux
    by_cases hx : x = 0
    · subst hx; exact ⟨by simp, fun h => absurd rfl h⟩
    · rw [if_neg hx]
      obtain ⟨h1, h2⟩ := bitLenAux_spec f (x / 2) (by rw [Nat.pow_succ] at h; omega)
      have e : 2 ^ (1 + Lib.bitLenAux f (x / 2)) = 2 * 2 ^ (Lib.bitLenAux f (x / 2)) := by rw [Nat.pow_add]
      refine ⟨by rw [e]; omega, fun _ => ?_⟩
      rw [e]
      by_cases h0 : x / 2 = 0
      · have hx1 : x = 1 := by omega
        subst hx1
        have : Lib.bitLenAux f (1 / 2) = 0 := by
          show Lib.bitLenAux f 0 = 0
          cases f <;> simp [Lib.bitLenAux]
        rw [this]; omega
      · have := h2 h0; omega

/-- The shift that makes the highest word great. -/
theorem lead_spec {t : Nat} (h0 : 0 < t) (h1 : t < 4294967296) : ∃ s : Nat, (32 : Int) - (Lib.bitLen t : Int) = s ∧ s < 32 ∧ 2147483648 ≤ t * 2 ^ s ∧ (t + 1) * 2 ^ s ≤ 4294967296 := by
  have hs := bitLenAux_spec 64 t (by omega)
  have hb : Lib.bitLen t = Lib.bitLenAux 64 t := rfl
  rw [← hb] at hs
  generalize Lib.bitLen t = k at hs
  obtain ⟨h2, h3⟩ := hs
  have h3 := h3 (by omega)
  have hk32 : k ≤ 32 := by
    rcases Nat.lt_or_ge 32 k with h | h
    · have : 2 ^ 33 ≤ 2 ^ k := Nat.pow_le_pow_right (by omega) h
      have e : (2 : Nat) ^ 33 = 8589934592 := by decide
      omega
    · exact h
  have hk1 : 1 ≤ k := by
    rcases Nat.eq_zero_or_pos k with h | h
    · subst h; simp at h2; omega
    · exact h
  refine ⟨32 - k, by omega, by omega, ?_, ?_⟩
  · have h4 : 2 ^ k * 2 ^ (32 - k) = 4294967296 := by rw [← Nat.pow_add, show k + (32 - k) = 32 by omega]
    have h5 : 2 ^ k * 2 ^ (32 - k) ≤ 2 * t * 2 ^ (32 - k) := Nat.mul_le_mul_right _ h3
    rw [h4, Nat.mul_assoc] at h5
    omega
  · have h4 : 2 ^ k * 2 ^ (32 - k) = 4294967296 := by rw [← Nat.pow_add, show k + (32 - k) = 32 by omega]
    have h5 : (t + 1) * 2 ^ (32 - k) ≤ 2 ^ k * 2 ^ (32 - k) := Nat.mul_le_mul_right _ h2
    omega

theorem digs_last_pos {y n : Nat} (h : (digs y).length = n + 1) : 0 < (digs y).getD n 0 := by
  induction n generalizing y with
  | zero =>
    have hy : y ≠ 0 := by rintro rfl; rw [digs_zero] at h; simp at h
    rw [digs_pos hy] at h ⊢
    have h0 : (digs (y / BB)).length = 0 := by simpa using h
    have h1 := digs_length_zero.1 h0
    have h2 : y < BB := by
      rcases Nat.lt_or_ge y BB with h | h
      · exact h
      · have := Nat.div_pos h BB_pos; omega
    simp [Nat.mod_eq_of_lt h2]; omega
  | succ n ih =>
    have hy : y ≠ 0 := by rintro rfl; rw [digs_zero] at h; simp at h
    rw [digs_pos hy] at h ⊢
    have := ih (y := y / BB) (by simpa using h)
    simpa using this

/-- The shifted divisor. -/
theorem shifted_top {r : List Nat} {y n s t : Nat} (hl : (digs y).length = n + 1) (ht : (digs y).getD n 0 = t) (hr : r.length = n + 2) (sr : Small r) (hv : val r = 2 ^ s * y) (h1 : 2147483648 ≤ t * 2 ^ s) (h2 : (t + 1) * 2 ^ s ≤ 4294967296) :
    val (r.take (n + 1)) = 2 ^ s * y ∧ 2147483648 ≤ r.getD n 0 := by
  have ey := val_full hl
  rw [val_digs, ht] at ey
  have hlow : val ((digs y).take n) < BB ^ n := by
    have := val_lt (small_take (small_digs y) n)
    rwa [List.length_take, Nat.min_eq_left (by omega)] at this
  have hub : 2 ^ s * y < BB ^ (n + 1) := by
    have h3 : y + 1 ≤ BB ^ n * (t + 1) := by rw [Nat.mul_add]; omega
    have h4 : 2 ^ s * (y + 1) ≤ 2 ^ s * (BB ^ n * (t + 1)) := Nat.mul_le_mul_left _ h3
    have h5 : 2 ^ s * (BB ^ n * (t + 1)) = BB ^ n * ((t + 1) * 2 ^ s) := by rw [Nat.mul_left_comm, Nat.mul_comm (2 ^ s)]
    have h6 : BB ^ n * ((t + 1) * 2 ^ s) ≤ BB ^ n * BB := Nat.mul_le_mul_left _ (by rw [BB_eq]; exact h2)
    have h7 : 0 < 2 ^ s := Nat.two_pow_pos s
    rw [Nat.pow_succ]
    rw [Nat.mul_add] at h4
    omega
  have e1 := val_full hr
  have h0 : r.getD (n + 1) 0 = 0 := by
    rcases Nat.eq_zero_or_pos (r.getD (n + 1) 0) with h | h
    · exact h
    · exfalso
      have : BB ^ (n + 1) * 1 ≤ BB ^ (n + 1) * r.getD (n + 1) 0 := Nat.mul_le_mul_left _ h
      omega
  rw [h0, Nat.mul_zero, Nat.add_zero] at e1
  refine ⟨by rw [← e1, hv], ?_⟩
  have e2 := take_val_any r n
  rw [← e1, hv] at e2
  have h3 : BB ^ n * t ≤ y := by omega
  have h4 : 2 ^ s * (BB ^ n * t) ≤ 2 ^ s * y := Nat.mul_le_mul_left _ h3
  have h5 : 2 ^ s * (BB ^ n * t) = BB ^ n * (t * 2 ^ s) := by rw [Nat.mul_left_comm, Nat.mul_comm (2 ^ s)]
  have h6 : BB ^ n * 2147483648 ≤ BB ^ n * (t * 2 ^ s) := Nat.mul_le_mul_left _ h1
  have h7 : val (r.take n) < BB ^ n := by
    have := val_lt (small_take sr n)
    rwa [List.length_take, Nat.min_eq_left (by omega)] at this
  have h8 : BB ^ n * 2147483648 < BB ^ n * (r.getD n 0 + 1) := by rw [Nat.mul_add]; omega
  have := Nat.lt_of_mul_lt_mul_left h8
  omega

/-- The loop of divide: k digits are still to come. -/
def DivRel (w wr : World) (gu gv gq : Nat) (ul vl U Q : List Nat) (m n k : Nat) : Prop :=
  U.length = m + 1 ∧ Small U ∧ Blk wr gu 105 (wv U) ∧ Q.length = m - n + 1 ∧ Small Q ∧ Blk wr gq 105 (wv Q) ∧ Blk wr gv 105 (wv vl) ∧
  val (ul.drop k) = val (Q.drop k) * val (vl.take n) + val (U.drop k) ∧ U.take k = ul.take k ∧ val (U.drop k) < val (vl.take n) ∧ Ext w wr

theorem val_drop_split (U : List Nat) (k j : Nat) (h : k + j ≤ U.length) : val (U.drop k) = val ((U.drop k).take j) + BB ^ j * val (U.drop (k + j)) := by
  have h1 : U.drop k = (U.drop k).take j ++ (U.drop k).drop j := (List.take_append_drop j _).symm
  rw [List.drop_drop] at h1
  have h2 : ((U.drop k).take j).length = j := by simp; omega
  calc val (U.drop k) = val ((U.drop k).take j ++ U.drop (k + j)) := by rw [← h1]
    _ = _ := by rw [val_append, h2]

/-- The window of one step. -/
theorem DivRel.window {w wr : World} {gu gv gq : Nat} {ul vl U Q : List Nat} {m n k : Nat} (h : DivRel w wr gu gv gq ul vl U Q m n (k + 1)) (hk : k + n ≤ m) (hn : 2 ≤ n) (hvl : n ≤ vl.length) (sv : Small vl) :
    ∃ x post, x.length = n + 1 ∧ Small x ∧ Win wr gu (U.take k) x post ∧ val x < BB * val (vl.take n) ∧ val post = 0 ∧ U = U.take k ++ x ++ post ∧ val x = U.getD k 0 + BB * val (U.drop (k + 1)) ∧ (U.take k).length = k := by
  obtain ⟨h1, h2, h3, h4, h5, h6, h7, h8, h9, h10, h11⟩ := h
  have hsplit : U = U.take k ++ (U.drop k).take (n + 1) ++ U.drop (k + (n + 1)) := by
    rw [List.append_assoc, ← List.drop_drop, List.take_append_drop, List.take_append_drop]
  have hVB : val (vl.take n) < BB ^ n := by
    have := val_lt (small_take sv n)
    rwa [List.length_take, Nat.min_eq_left hvl] at this
  have e1 := val_drop_succ (l := U) (k := k) (by omega)
  have e2 := val_drop_split U k (n + 1) (by omega)
  have hUk := small_getD h2 k
  have hub : val (U.drop k) < BB * val (vl.take n) := by
    have : BB * (val (U.drop (k + 1)) + 1) ≤ BB * val (vl.take n) := Nat.mul_le_mul_left _ h10
    rw [Nat.mul_add] at this
    omega
  have hp0 : val (U.drop (k + (n + 1))) = 0 := by
    rcases Nat.eq_zero_or_pos (val (U.drop (k + (n + 1)))) with h | h
    · exact h
    · exfalso
      have h12 : BB ^ (n + 1) * 1 ≤ BB ^ (n + 1) * val (U.drop (k + (n + 1))) := Nat.mul_le_mul_left _ h
      have h13 : BB * val (vl.take n) ≤ BB * BB ^ n := Nat.mul_le_mul_left _ (Nat.le_of_lt hVB)
      have h14 : BB ^ (n + 1) = BB * BB ^ n := by rw [Nat.pow_succ, Nat.mul_comm]
      omega
  rw [hp0, Nat.mul_zero, Nat.add_zero] at e2
  refine ⟨(U.drop k).take (n + 1), U.drop (k + (n + 1)), by simp; omega, small_take (small_drop h2 k) _, ?_, by rw [← e2]; exact hub, hp0, hsplit, by rw [← e2]; exact e1, by simp; omega⟩
  unfold Win
  rw [← hsplit]
  exact h3

theorem val_append0 {a b : List Nat} (h : val b = 0) : val (a ++ b) = val a := by rw [val_append, h, Nat.mul_zero, Nat.add_zero]

/-- One step. -/
theorem DivRel.step {w wr w1 : World} {gu gv gq : Nat} {ul vl U Q x x' post : List Nat} {m n k q : Nat} (h : DivRel w wr gu gv gq ul vl U Q m n (k + 1)) (hk : k + n ≤ m) (hul : ul.length = m + 1) (hx : x.length = n + 1) (hU : U = U.take k ++ x ++ post) (hpl : (U.take k).length = k) (hp0 : val post = 0) (hxv : val x = U.getD k 0 + BB * val (U.drop (k + 1)))
    (hx' : x'.length = n + 1) (sx' : Small x') (hW : Win w1 gu (U.take k) x' post) (hO : Only gu wr w1) (hq : q < BB) (hval : val x' + q * val (vl.take n) = val x) (hlt : val x' < val (vl.take n)) (hgu : w.heap.size ≤ gu) (hgq : gq ≠ gu) (hgv : gv ≠ gu) (hqv : gv ≠ gq) (hgqw : w.heap.size ≤ gq) {e : Int} (he : e = (q : Nat)) :
    DivRel w (w1.setCell ⟨gq, k, none⟩ (.int .u32 e)) gu gv gq ul vl (U.take k ++ x' ++ post) (Q.set k q) m n k := by
  obtain ⟨h1, h2, h3, h4, h5, h6, h7, h8, h9, h10, h11⟩ := h
  have sU : Small (U.take k) := small_take h2 k
  have sp : Small post := fun y hy => h2 y (by rw [hU]; simp [hy])
  have hk1 : k < U.length := by omega
  have hql : Blk w1 gq 105 (wv Q) := (hO.block gq (Blk.lt h6) hgq).trans h6
  have hvl1 : Blk w1 gv 105 (wv vl) := (hO.block gv (Blk.lt h7) hgv).trans h7
  have hd : (U.take k ++ x' ++ post).drop k = x' ++ post := by
    rw [List.append_assoc, List.drop_append, List.drop_eq_nil_of_le (by omega), hpl, Nat.sub_self]; rfl
  have ht : (U.take k ++ x' ++ post).take k = U.take k := by
    rw [List.append_assoc, List.take_append, hpl, Nat.sub_self, List.take_of_length_le (by omega)]; simp
  have hul' : ul.take k = U.take k := by
    have : (U.take (k + 1)).take k = (ul.take (k + 1)).take k := by rw [h9]
    rw [List.take_take, List.take_take, Nat.min_eq_left (by omega)] at this
    exact this.symm
  have huk : ul.getD k 0 = U.getD k 0 := by
    have : (U.take (k + 1)).getD k 0 = (ul.take (k + 1)).getD k 0 := by rw [h9]
    simp only [List.getD_eq_getElem?_getD, List.getElem?_take] at this
    simpa using this.symm
  refine ⟨?_, ?_, ?_, by simpa using h4, small_set h5 k hq, ?_, ?_, ?_, ?_, ?_, ?_⟩
  · have e1 : (U.take k ++ x ++ post).length = m + 1 := by rw [← hU]; exact h1
    simp only [List.length_append] at e1 ⊢
    omega
  · intro y hy
    rcases List.mem_append.1 hy with hy | hy
    · rcases List.mem_append.1 hy with hy | hy
      · exact sU y hy
      · exact sx' y hy
    · exact sp y hy
  · exact Blk.far hW (by exact fun e => hgq e.symm) _
  · rw [he, ← wv_set]; exact hql.set k _
  · exact hvl1.far (by exact hqv) _
  · rw [hd, val_append0 hp0, val_drop_succ (l := ul) (by omega), val_drop_succ (l := Q.set k q) (by rw [List.length_set]; omega), drop_set_gt, getD_set_self (by omega), h8, huk]
    have : BB * (val (Q.drop (k + 1)) * val (vl.take n) + val (U.drop (k + 1))) = BB * val (Q.drop (k + 1)) * val (vl.take n) + BB * val (U.drop (k + 1)) := by rw [Nat.mul_add, Nat.mul_assoc]
    rw [this, Nat.add_mul]
    omega
  · rw [ht, hul']
  · rw [hd, val_append0 hp0]; exact hlt
  · refine Ext.set ?_ hgqw _
    exact ⟨hO.os.trans h11.os, hO.tape.trans h11.tape, hO.output.trans h11.output, Nat.le_trans h11.size hO.size, fun i hi => (hO.block i (Nat.lt_of_lt_of_le hi h11.size) (by omega)).trans (h11.block hi)⟩

theorem div_start {ul vl : List Nat} {x y m n s : Nat} (hx : (digs x).length = m) (hy : (digs y).length = n + 1) (hle : n + 1 ≤ m) (hul : ul.length = m + 1) (hu : val ul = 2 ^ s * x) (hv : val (vl.take (n + 1)) = 2 ^ s * y) : val (ul.drop (m - (n + 1) + 1)) < val (vl.take (n + 1)) := by
  have h1 : x < BB ^ m := by have := val_lt (small_digs x); rwa [val_digs, hx] at this
  have h2 : BB ^ n ≤ y := by
    have e := val_full hy
    rw [val_digs] at e
    have := digs_last_pos hy
    have h3 : BB ^ n * 1 ≤ BB ^ n * (digs y).getD n 0 := Nat.mul_le_mul_left _ this
    omega
  have e1 : m - (n + 1) + 1 = m - n := by omega
  rw [e1, hv]
  have h3 : val ul = val (ul.take (m - n)) + BB ^ (m - n) * val (ul.drop (m - n)) := by
    have := val_append (ul.take (m - n)) (ul.drop (m - n))
    rw [List.take_append_drop, List.length_take, Nat.min_eq_left (by omega)] at this
    exact this
  have hs := Nat.two_pow_pos s
  have h4 : 2 ^ s * x < 2 ^ s * BB ^ m := Nat.mul_lt_mul_of_pos_left h1 hs
  have h5 : 2 ^ s * BB ^ m = BB ^ (m - n) * (2 ^ s * BB ^ n) := by
    rw [Nat.mul_left_comm, ← Nat.pow_add, show m - n + n = m by omega]
  have h6 : BB ^ (m - n) * val (ul.drop (m - n)) < BB ^ (m - n) * (2 ^ s * BB ^ n) := by omega
  have h7 := Nat.lt_of_mul_lt_mul_left h6
  have h8 : 2 ^ s * BB ^ n ≤ 2 ^ s * y := Nat.mul_le_mul_left _ h2
  omega

theorem div_shift {a b s q r : Nat} (hb : 0 < b) (h : 2 ^ s * a = q * (2 ^ s * b) + r) (hr : r < 2 ^ s * b) : a / b = q ∧ r / 2 ^ s = a % b := by
  have hs : 0 < 2 ^ s := Nat.two_pow_pos s
  have h1 : (2 ^ s * a) / (2 ^ s * b) = q := by
    rw [h, Nat.mul_comm q, Nat.mul_add_div (Nat.mul_pos hs hb), Nat.div_eq_of_lt hr, Nat.add_zero]
  have h2 : (2 ^ s * a) % (2 ^ s * b) = r := by
    rw [h, Nat.mul_comm q, Nat.mul_add_mod, Nat.mod_eq_of_lt hr]
  rw [Nat.mul_div_mul_left _ _ hs] at h1
  rw [Nat.mul_mod_mul_left] at h2
  refine ⟨h1, ?_⟩
  rw [← h2, Nat.mul_div_cancel_left _ hs]

end Go.Proofs.YteefhmdameeoaaaGreat
namespace Go.Proofs.YteefhmdameeoaaaGreat
open Go.RowKit

/-- Quotient and remainder, in new memory or old. -/
def RetDiv (x y : Nat) (w : World) (e : Ending) (w' : World) : Prop :=
  ∃ (A A' : Option Addr) (n c n' c' : Nat), e = .returned (.tuple #[.slice A n c, .slice A' n' c']) ∧ Words w' (.slice A n c) (digs (x / y)) ∧ Words w' (.slice A' n' c') (digs (x % y)) ∧ Ext w w'

theorem Words.form {w : World} {v : Value} {l : List Nat} (h : Words w v l) : ∃ A n c, v = .slice A n c := by
  obtain ⟨A, c, rfl, _⟩ := h
  exact ⟨A, _, c, rfl⟩

set_option maxRecDepth 100000 in
set_option maxHeartbeats 800000 in
theorem divide_lt (va vb : Value) (la lb : List Nat) (w : World) (ha : Words w va la) (hb : Words w vb lb) (hn : la.length ≤ 4398046511104) (hlt : val la < val lb) :
    Calls Tryz.prog 112 #[va, vb] w (RetDiv (val la) (val lb) w) := by
  have hsa := hide ha.small
  have hsb := hide hb.small
  replace ha := hide ha
  replace hb := hide hb
  have hcmp : cmpN (val la) (val lb) < 0 := by unfold cmpN; rw [if_pos hlt]; omega
  have hlen : Hid ((digs (val la)).length ≤ 35184372088832) := by
    have h1 : (trimW la).length ≤ la.length := trimW_length la
    rw [trimW_eq_digs hsa.out] at h1
    show _ ≤ _
    omega
  replace hn := hide hn
  replace hlt := hide hlt
  go_enter Tryz.func112, Tryz.ntmps112
  go_wp2_with fail
  refine (trim_any _ _ _ ha.out).mono ?_
  rintro e w1 ⟨v1, rfl, hW1, hE1⟩
  rw [trimW_eq_digs hsa.out] at hW1
  replace hW1 := hide hW1
  replace hE1 := hide hE1
  go_wp2_with fail
  refine (trim_any _ _ _ (hb.out.ext hE1.out)).mono ?_
  rintro e w2 ⟨v2, rfl, hW2, hE2⟩
  rw [trimW_eq_digs hsb.out] at hW2
  replace hW1 := hide (hW1.out.ext hE2)
  replace hE2 := hide (hE1.out.trans hE2)
  replace hW2 := hide hW2
  go_wp2_with fail
  refine (compare_any _ _ _ _ _ hW1.out hW2.out).mono ?_
  rintro e w3 ⟨rfl, hE3⟩
  replace hW1 := hide (hW1.out.ext hE3)
  replace hE3 := hide (hE2.out.trans hE3)
  go_wp2_with fail
  refine (clone_any _ _ _ hW1.out hlen.out).mono ?_
  rintro e w4 ⟨v4, rfl, hW4, hE4⟩
  obtain ⟨A4, n4, c4, rfl⟩ := hW4.form
  replace hW4 := hide hW4
  replace hE4 := hide (hE3.out.trans hE4)
  go_wp2
  go_ret2
  refine ⟨_, _, _, _, _, _, rfl, ?_, ?_, hE4.out⟩
  · rw [Nat.div_eq_of_lt hlt.out, digs_zero]; exact Words.nil _ _ _ (by omega)
  · rw [Nat.mod_eq_of_lt hlt.out]; exact hW4.out

set_option maxRecDepth 100000 in
set_option maxHeartbeats 800000 in
theorem divide_one (va vb : Value) (la lb : List Nat) (w : World) (ha : Words w va la) (hb : Words w vb lb) (hn : la.length ≤ 4398046511104) (hge : val lb ≤ val la) (h1 : (digs (val lb)).length = 1) :
    Calls Tryz.prog 112 #[va, vb] w (RetDiv (val la) (val lb) w) := by
  have hsa := hide ha.small
  have hsb := hide hb.small
  replace ha := hide ha
  replace hb := hide hb
  have hcmp : ¬ cmpN (val la) (val lb) < 0 := by unfold cmpN; rw [if_neg (by omega)]; split <;> omega
  have hlen : Hid ((digs (val la)).length ≤ 4398046511104) := by
    have h1 : (trimW la).length ≤ la.length := trimW_length la
    rw [trimW_eq_digs hsa.out] at h1
    show _ ≤ _
    omega
  obtain ⟨t, ht⟩ : ∃ t, digs (val lb) = [t] := by
    match hd : digs (val lb), h1 with
    | [t], _ => exact ⟨t, rfl⟩
  have htv : Hid (val lb = t) := by
    show val lb = t
    rw [← val_digs (val lb), ht]; simp [val]
  have htB : t < 4294967296 := by
    have := small_digs (val lb) t (by rw [ht]; simp)
    rwa [BB_eq] at this
  have ht0 : 0 < t := by
    have := digs_last_pos (y := val lb) (n := 0) h1
    rw [ht] at this
    simpa using this
  replace hn := hide hn
  replace hge := hide hge
  clear h1
  replace ht := hide ht
  go_enter Tryz.func112, Tryz.ntmps112
  go_wp2_with fail
  refine (trim_any _ _ _ ha.out).mono ?_
  rintro e w1 ⟨v1, rfl, hW1, hE1⟩
  rw [trimW_eq_digs hsa.out] at hW1
  replace hW1 := hide hW1
  replace hE1 := hide hE1
  go_wp2_with fail
  refine (trim_any _ _ _ (hb.out.ext hE1.out)).mono ?_
  rintro e w2 ⟨v2, rfl, hW2, hE2⟩
  rw [trimW_eq_digs hsb.out] at hW2
  replace hW1 := hide (hW1.out.ext hE2)
  replace hE2 := hide (hE1.out.trans hE2)
  replace hW2 := hide hW2
  go_wp2_with fail
  refine (compare_any _ _ _ _ _ hW1.out hW2.out).mono ?_
  rintro e w3 ⟨rfl, hE3⟩
  replace hW1 := hide (hW1.out.ext hE3)
  replace hW2 := hW2.out.ext hE3
  replace hE3 := hide (hE2.out.trans hE3)
  rw [ht.out] at hW2
  obtain ⟨A2, c2, rfl, hc2, hm2, hx2⟩ := hW2.open_
  obtain ⟨b2, o2, rfl, hb2, hcell2⟩ := hx2 (by simp)
  replace hcell2 : w3.cell? ⟨b2, o2, none⟩ = some (.int .u32 (t : Nat)) := hcell2 0 (by simp)
  clear hx2 hW2
  go_wp2_with fail
  refine (divideSmall_any _ _ t _ hW1.out hlen.out ht0 htB).mono ?_
  rintro e w4 ⟨v4, rfl, hW4, hE4⟩
  obtain ⟨A4, n4, c4, rfl⟩ := hW4.form
  replace hW4 := hide hW4
  replace hE4 := hide (hE3.out.trans hE4)
  have hrB : val (digs (val la)) % t < 18446744073709551616 := by have := Nat.mod_lt (val (digs (val la))) ht0; omega
  replace hrB := hide hrB
  clear hcell2
  go_wp2_with fail
  refine (words_any _ _ hrB.out).mono ?_
  rintro e w5 ⟨v5, rfl, hW5, hE5⟩
  obtain ⟨A5, n5, c5, rfl⟩ := hW5.form
  replace hW4 := hide (hW4.out.ext hE5)
  replace hW5 := hide hW5
  replace hE5 := hide (hE4.out.trans hE5)
  go_wp2
  go_ret2
  refine ⟨_, _, _, _, _, _, rfl, ?_, ?_, hE5.out⟩
  · have := hW4.out; rw [val_digs] at this; rw [htv.out]; exact this
  · have := hW5.out; rw [val_digs] at this; rw [htv.out]; exact this


/-- quotientWord, as divide calls it. -/
theorem quotientWord_at (b bv n cu cv k : Nat) (pre post u v : List Nat) (w : World) (hk : pre.length = k) (hW : Win w b pre u post) (hu : u.length = n + 1) (hv : n ≤ v.length) (hn2 : 2 ≤ n) (hn : n ≤ 4398046511104) (su : Small u) (sv : Small v) (hbv : bv ≠ b)
    (hvb : Blk w bv 105 (wv v)) (hcu : n + 1 ≤ cu) (hcv : n ≤ cv) (htop : 2147483648 ≤ v.getD (n - 1) 0) (hlt : val u < BB * val (v.take n)) :
    Calls Tryz.prog 122 #[.slice (some ⟨b, k, none⟩) (n + 1) cu, .slice (some ⟨bv, 0, none⟩) n cv] w (QwPost w b pre post u (v.take n)) := by
  subst hk
  refine quotientWord_any b bv 0 n cu cv pre post u (v.take n) w hW hu (by simp; omega) hn2 hn su (small_take sv n) hbv (fun i hi => ?_) hcu hcv ?_ hlt
  · rw [Nat.zero_add, hvb.cell, wv_getD (by omega)]
    simp [hi]
  · simp only [List.getD_eq_getElem?_getD, List.getElem?_take] at htop ⊢
    rw [if_pos (by omega)]
    exact htop

set_option maxRecDepth 1000000 in
set_option maxHeartbeats 2000000 in
theorem divide_big (va vb : Value) (la lb : List Nat) (w : World) (ha : Words w va la) (hb : Words w vb lb) (hn : la.length ≤ 4398046511104) (hge : val lb ≤ val la) (h2 : 2 ≤ (digs (val lb)).length) :
    Calls Tryz.prog 112 #[va, vb] w (RetDiv (val la) (val lb) w) := by
  have hsa := hide ha.small
  have hsb := hide hb.small
  replace ha := hide ha
  replace hb := hide hb
  have hcmp : ¬ cmpN (val la) (val lb) < 0 := by unfold cmpN; rw [if_neg (by omega)]; split <;> omega
  have hlen : (digs (val la)).length ≤ 4398046511104 := by
    have h1 : (trimW la).length ≤ la.length := trimW_length la
    rw [trimW_eq_digs hsa.out] at h1
    omega
  have hle := digs_length_mono hge
  obtain ⟨n, hn1⟩ : ∃ n, (digs (val lb)).length = n + 1 := ⟨(digs (val lb)).length - 1, by omega⟩
  obtain ⟨m, hm1⟩ : ∃ m, (digs (val la)).length = m := ⟨_, rfl⟩
  have ht0 := digs_last_pos hn1
  have htB := small_getD (small_digs (val lb)) n
  generalize ht : (digs (val lb)).getD n 0 = t at *
  unfold BB at htB
  obtain ⟨s, hs1, hs, hs2, hs3⟩ := lead_spec ht0 htB
  rw [hm1] at hlen hle
  rw [hn1] at hle h2
  have hn2 : 1 ≤ n := by omega
  clear h2 hn
  replace ht := hide ht
  replace hn1 := hide hn1
  replace hm1 := hide hm1
  replace hge := hide hge
  replace hs2 := hide hs2
  replace hs3 := hide hs3
  replace hs1 := hide hs1
  have hmk := fun W => run_make_words (m - (n + 1) + 1) (by omega) .i64 .i64 W
  have hsub : ((m - (n + 1) + 1 : Nat) : Int) = (m : Int) - ((n : Int) + 1) + 1 := by omega
  rw [hsub] at hmk
  clear hsub
  go_enter Tryz.func112, Tryz.ntmps112
  go_wp2_with fail
  refine (trim_any _ _ _ ha.out).mono ?_
  rintro e w1 ⟨v1, rfl, hW1, hE1⟩
  rw [trimW_eq_digs hsa.out] at hW1
  replace hW1 := hide hW1
  replace hE1 := hide hE1
  go_wp2_with fail
  refine (trim_any _ _ _ (hb.out.ext hE1.out)).mono ?_
  rintro e w2 ⟨v2, rfl, hW2, hE2⟩
  rw [trimW_eq_digs hsb.out] at hW2
  replace hW1 := hide (hW1.out.ext hE2)
  replace hE2 := hide (hE1.out.trans hE2)
  replace hW2 := hide hW2
  go_wp2_with fail
  refine (compare_any _ _ _ _ _ hW1.out hW2.out).mono ?_
  rintro e w3 ⟨rfl, hE3⟩
  replace hW1 := hW1.out.ext hE3
  replace hW2 := hW2.out.ext hE3
  replace hE3 := hide (hE2.out.trans hE3)
  obtain ⟨A1, c1, rfl, hc1, hm1', hx1⟩ := hW1.open_
  clear hx1
  obtain ⟨A2, c2, rfl, hc2, hm2, hx2⟩ := hW2.open_
  obtain ⟨b2, o2, rfl, hb2, hcell2⟩ := hx2 (by rw [hn1.out]; omega)
  replace hcell2 : w3.cell? ⟨b2, o2 + n, none⟩ = some (.int .u32 (t : Nat)) := by have := hcell2 n (by rw [hn1.out]; omega); rw [ht.out] at this; exact this
  clear hx2
  rw [hn1.out] at hc2 ⊢
  rw [hm1.out] at hc1 ⊢
  replace hW1 := hide hW1
  replace hW2 := hide hW2
  have hne1 : (((n + 1 : Nat) : Int) == 1) = false := by simp; omega
  go_wp2_with fail
  refine (Go.Proofs.Tryz.bits_LeadingZeros32 _ _ (by omega) (by omega)).mono ?_
  rintro e w3 ⟨rfl, rfl⟩
  rw [Int.toNat_natCast, hs1.out]
  have hW1' : Hid (Words w3 (.slice A1 m c1) (digs (val la))) := by have := hW1.out; rw [hm1.out] at this; exact this
  have hW2' : Hid (Words w3 (.slice (some ⟨b2, o2, none⟩) (n + 1) c2) (digs (val lb))) := by have := hW2.out; rw [hn1.out] at this; exact this
  clear hW1 hW2 hcell2
  go_wp2_with fail
  refine (shiftLeft_any _ _ s _ hW1'.out (by rw [hm1.out]; exact hlen) hs).mono ?_
  rintro e w4 ⟨gu, ul, rfl, hul, sul, hgu, hBu, hvu, hE4⟩
  rw [hm1.out] at hul ⊢
  have hW2 := hide (hW2'.out.ext hE4)
  clear hW1' hW2'
  go_wp2_with fail
  refine (shiftLeft_any _ _ s _ hW2.out (by rw [hn1.out]; omega) hs).mono ?_
  rintro e w5 ⟨gv, vl, rfl, hvl, svl, hgv, hBv, hvv, hE5⟩
  have hguv : gv ≠ gu := by have := Blk.lt hBu; omega
  rw [hn1.out] at hvl ⊢
  clear hW2
  rw [val_digs] at hvu hvv
  have hst := hide (shifted_top hn1.out ht.out hvl svl hvv hs2.out hs3.out)
  replace hBu := hBu.ext hE5
  replace hE5 := hE3.out.trans (hE4.trans hE5)
  replace hul := hide hul
  replace hvl := hide hvl
  replace sul := hide sul
  replace svl := hide svl
  replace hvu := hide hvu
  replace hvv := hide hvv
  replace hBu := hide hBu
  replace hBv := hide hBv
  replace hE5 := hide hE5
  have hgu5 := Blk.lt hBu.out
  have hgv5 := Blk.lt hBv.out
  have hguw : w.heap.size ≤ gu := Nat.le_trans hE3.out.size hgu
  have hszw := hE5.out.size
  replace hguw := hide hguw
  replace hszw := hide hszw
  clear hE4 hgu hgv
  go_wp2
  go_loopw [13] (fun i wr => ∃ (k : Nat) (U Q : List Nat), k ≤ m - (n + 1) + 1 ∧ i = .int .i64 ((k : Int) - 1) ∧ Hid (DivRel w wr gu gv w5.heap.size ul vl U Q m (n + 1) k)) (fun i _ => (intOf i + 1).toNat)
  case atStart =>
    refine ⟨m - (n + 1) + 1, ul, List.replicate (m - (n + 1) + 1) 0, Nat.le_refl _, by congr 1; omega, hul.out, sul.out, hBu.out.alloc _, by simp, small_replicate _, Blk.new _ _ _, hBv.out.alloc _, ?_, rfl, ?_, hE5.out.alloc _⟩
    · have : (List.replicate (m - (n + 1) + 1) 0).drop (m - (n + 1) + 1) = [] := List.drop_eq_nil_of_le (by simp)
      rw [this]; simp [val]
    · exact div_start hm1.out hn1.out hle hul.out hvu.out hst.out.1
  case round =>
    obtain ⟨k, U, Q, hk, rfl, hR⟩ := hrel
    by_cases hk0 : k = 0
    · subst hk0
      have hWq : Hid (Words wr (.slice (some ⟨w5.heap.size, 0, none⟩) (m - (n + 1) + 1) (m - (n + 1) + 1)) Q) := by
        have := Words.of_blk (c := m - (n + 1) + 1) hR.out.2.2.2.2.2.1 hR.out.2.2.2.2.1 (by rw [hR.out.2.2.2.1]; omega) (by omega)
        rw [hR.out.2.2.2.1] at this
        exact this
      have hUn : Hid ((U.take (n + 1)).length = n + 1) := by show _ = _; rw [List.length_take, hR.out.1]; omega
      have hWu : Hid (Words wr (.slice (some ⟨gu, 0, none⟩) (n + 1) (m + 1)) (U.take (n + 1))) := by
        have := Words.of_blk (c := m + 1) hR.out.2.2.1 hR.out.2.1 (by rw [hR.out.1]; omega) (by omega)
        have := this.take (k := n + 1) (by rw [hR.out.1]; omega)
        exact this
      have hfin : Hid (val la / val lb = val Q ∧ val (U.take (n + 1)) / 2 ^ s = val la % val lb) := by
        have h1 := hR.out.2.2.2.2.2.2.2.1
        have h2 := hR.out.2.2.2.2.2.2.2.2.2.1
        simp only [List.drop_zero] at h1 h2
        rw [hvu.out, hst.out.1] at h1
        rw [hst.out.1] at h2
        have hb0 : 0 < val lb := by
          rcases Nat.eq_zero_or_pos (val lb) with h | h
          · have := hn1.out; rw [h, digs_zero] at this; simp at this
          · exact h
        have hUt : val (U.take (n + 1)) = val U := by
          have e := val_drop_split U 0 (n + 1) (by rw [hR.out.1]; omega)
          simp only [List.drop_zero, Nat.zero_add] at e
          have hVB : 2 ^ s * val lb < BB ^ (n + 1) := by
            rw [← hst.out.1]
            have := val_lt (small_take svl.out (n + 1))
            rwa [List.length_take, hvl.out, Nat.min_eq_left (by omega)] at this
          rcases Nat.eq_zero_or_pos (val (U.drop (n + 1))) with h | h
          · rw [h, Nat.mul_zero, Nat.add_zero] at e; exact e.symm
          · exfalso
            have : BB ^ (n + 1) * 1 ≤ BB ^ (n + 1) * val (U.drop (n + 1)) := Nat.mul_le_mul_left _ h
            omega
        rw [hUt]
        exact div_shift hb0 h1 h2
      go_wp2
      refine wp_region_v (by kernel_rfl) [[], [(81, 0)], [], [], [(83, 2), (84, 3)], [], [(85, 4), (86, 5)]] [[], [0], [], [], [2, 3], [], [0, 1, 2, 3, 4, 5]]
        [fun v _ => v = .slice (some ⟨w5.heap.size, 0, none⟩) (m - (n + 1) + 1) (m - (n + 1) + 1), fun v w' => ∃ A n c, v = .slice A n c ∧ Words w' (.slice A n c) (digs (val la / val lb)), fun v _ => v = .slice (some ⟨gu, 0, none⟩) (m + 1) (m + 1), fun v _ => v = .int .i64 ((n : Int) + 1), fun v _ => v = .slice (some ⟨gu, 0, none⟩) (n + 1) (m + 1), fun v _ => v = .int .i64 (s : Int), fun v w' => ∃ A n c, v = .slice A n c ∧ Words w' (.slice A n c) (digs (val la % val lb))]
        rfl (by kernel_rfl) (by kernel_rfl) ?stab ?steps ?fin
      case stab => exact .cons (Stab.eq _) (.cons (fun _ _ _ he ⟨A, n, c, h1, h2⟩ => ⟨A, n, c, h1, h2.ext he⟩) (.cons (Stab.eq _) (.cons (Stab.eq _) (.cons (Stab.eq _) (.cons (Stab.eq _) (.cons (fun _ _ _ he ⟨A, n, c, h1, h2⟩ => ⟨A, n, c, h1, h2.ext he⟩) .nil))))))
      case steps =>
        refine .cons ?s0 (.cons ?s1 (.cons ?s2 (.cons ?s3 (.cons ?s4 (.cons ?s5 (.cons ?s6 .nil))))))
        case s0 =>
          intro w' ev hE hk ha hc hf
          have e12 : ev (.tmp 12) = .slice (some ⟨w5.heap.size, 0, none⟩) (m - (n + 1) + 1) (m - (n + 1) + 1) := ha 12 (by decide)
          exact opStep_val (by simp [execOp, e12, go_sem]) rfl
        case s1 =>
          intro w' ev hE hk ha hc hf
          have e81 : ev (.tmp 81) = .slice (some ⟨w5.heap.size, 0, none⟩) (m - (n + 1) + 1) (m - (n + 1) + 1) := hk.1 _ rfl
          refine opStep_call (by simp [execOp, resolve, invoke, hf, e81, go_sem]) (trim_any _ _ _ (hWq.out.ext ((Ext.refl _).drew.trans hE))) ?_
          rintro e w1 ⟨v1, rfl, hW1, hE1⟩
          obtain ⟨A1, n1, c1, rfl⟩ := hW1.form
          exact ⟨_, rfl, hE1, _, _, _, rfl, by rw [trimW_eq_digs hR.out.2.2.2.2.1, ← hfin.out.1] at hW1; exact hW1⟩
        case s2 =>
          intro w' ev hE hk ha hc hf
          have e10 : ev (.tmp 10) = .slice (some ⟨gu, 0, none⟩) (m + 1) (m + 1) := ha 10 (by decide)
          exact opStep_val (by simp [execOp, e10, go_sem]) rfl
        case s3 =>
          intro w' ev hE hk ha hc hf
          have e8 : ev (.tmp 8) = .int .i64 ((n : Int) + 1) := ha 8 (by decide)
          exact opStep_val (by simp [execOp, e8, go_sem]) rfl
        case s4 =>
          intro w' ev hE hk ha hc hf
          have e83 : ev (.tmp 83) = .slice (some ⟨gu, 0, none⟩) (m + 1) (m + 1) := hk.1 _ rfl
          have e84 : ev (.tmp 84) = .int .i64 ((n : Int) + 1) := hk.2.1 _ rfl
          have hsl1 : (n : Int) + 1 ≤ (m : Int) + 1 := by omega
          have hsl2 : (0 : Int) ≤ (n : Int) + 1 := by omega
          exact opStep_val (by simp [execOp, e83, e84, hsl1, hsl2, go_sem]) rfl
        case s5 =>
          intro w' ev hE hk ha hc hf
          have e9 : ev (.tmp 9) = .int .i64 (s : Int) := ha 9 (by decide)
          exact opStep_val (by simp [execOp, e9, go_sem]) rfl
        case s6 =>
          intro w' ev hE hk ha hc hf
          have e85 : ev (.tmp 85) = .slice (some ⟨gu, 0, none⟩) (n + 1) (m + 1) := hk.1 _ rfl
          have e86 : ev (.tmp 86) = .int .i64 (s : Int) := hk.2.1 _ rfl
          refine opStep_call (by simp [execOp, resolve, invoke, hf, e85, e86, go_sem]) (shiftRight_any _ _ s _ (hWu.out.ext ((Ext.refl _).drew.trans hE)) (by rw [hUn.out]; omega) hs) ?_
          rintro e w1 ⟨v1, rfl, hW1, hE1⟩
          obtain ⟨A1, n1, c1, rfl⟩ := hW1.form
          exact ⟨_, rfl, hE1, _, _, _, rfl, by rw [hfin.out.2] at hW1; exact hW1⟩
      case fin =>
        intro g w' hE hF
        obtain ⟨A1', n1', c1', e1, hq1⟩ := hF 1 _ rfl
        obtain ⟨A2', n2', c2', e2, hq2⟩ := hF 6 _ rfl
        simp only [List.length_cons, List.length_nil, Nat.reduceAdd, List.drop_succ_cons, List.drop_zero, List.take_succ_cons, List.take_zero, putG, Act.put, List.setIfInBounds_toArray, List.set_cons_succ, List.set_cons_zero, e1, e2]

        clear hF e1 e2
        replace hq1 := hide hq1
        replace hq2 := hide hq2
        replace hE := hide (hR.out.2.2.2.2.2.2.2.2.2.2.trans ((Ext.refl _).drew.trans hE))
        go_wp2
        go_ret2
        exact ⟨_, _, _, _, _, _, rfl, hq1.out, hq2.out, hE.out⟩
    · obtain ⟨k, rfl⟩ : ∃ q, k = q + 1 := ⟨k - 1, by omega⟩
      have hq1 : ((k + 1 : Nat) : Int) - 1 = k := by omega
      rw [hq1]
      obtain ⟨x, post, hx1, hx2, hx3, hx4, hx5, hx6, hx7, hx8⟩ := hR.out.window (by omega) (by omega) (by rw [hvl.out]; omega) svl.out
      replace hx1 := hide hx1
      replace hx2 := hide hx2
      replace hx3 := hide hx3
      replace hx4 := hide hx4
      replace hx5 := hide hx5
      replace hx6 := hide hx6
      replace hx7 := hide hx7
      replace hx8 := hide hx8
      go_wp2_with fail
      rw [show k + (n + 1) + 1 - k = n + 1 + 1 by omega]
      refine (quotientWord_at gu gv (n + 1) _ _ k (U.take k) post x vl wr hx8.out hx3.out hx1.out (by rw [hvl.out]; omega) (by omega) (by omega) hx2.out svl.out hguv hR.out.2.2.2.2.2.2.1 (by omega) (by omega) hst.out.2 hx4.out).mono ?_
      rintro e w6 ⟨q, x', rfl, hq, hx', sx', hW', hO, hval, hlt'⟩
      rw [hx1.out] at hx'
      have hqB : q < 4294967296 := by rwa [BB_eq] at hq
      have hBq : Blk w6 w5.heap.size 105 (wv Q) := (hO.block _ (Blk.lt hR.out.2.2.2.2.2.1) (by omega)).trans hR.out.2.2.2.2.2.1
      have hstc : w6.cell? ⟨w5.heap.size, k, none⟩ = some (.int .u32 (Q.getD k 0 : Nat)) := by rw [hBq.cell, wv_getD (by rw [hR.out.2.2.2.1]; omega)]
      have hfz := hBq.frozen k
      have hstep := hR.out.step (by omega) hul.out hx1.out hx6.out hx8.out hx5.out hx7.out hx' sx' hW' hO hq hval hlt' hguw.out (by omega) hguv (by omega) hszw.out (e := (q : Nat)) rfl
      replace hstep := hide hstep
      clear hx' sx' hW' hO hval hlt' hBq hq
      go_wp2
      exact ⟨⟨k, _, _, by omega, rfl, hstep⟩, by simp [intOf]⟩

theorem divide_any (va vb : Value) (la lb : List Nat) (w : World) (ha : Words w va la) (hb : Words w vb lb) (hn : la.length ≤ 4398046511104) (h0 : val lb ≠ 0) :
    Calls Tryz.prog 112 #[va, vb] w (RetDiv (val la) (val lb) w) := by
  rcases Nat.lt_or_ge (val la) (val lb) with h | h
  · exact divide_lt va vb la lb w ha hb hn h
  · by_cases h1 : (digs (val lb)).length = 1
    · exact divide_one va vb la lb w ha hb hn h h1
    · have h2 : (digs (val lb)).length ≠ 0 := fun e => h0 (digs_length_zero.1 e)
      exact divide_big va vb la lb w ha hb hn h (by omega)

end Go.Proofs.YteefhmdameeoaaaGreat
namespace Go.Proofs.YteefhmdameeoaaaGreat
open Go.RowKit

theorem lt_of_digs {x k : Nat} (h : (digs x).length ≤ k) : x < BB ^ k := by
  have := val_lt (small_digs x)
  rw [val_digs] at this
  exact Nat.lt_of_lt_of_le this (Nat.pow_le_pow_right BB_pos h)

theorem len_of_lt {x k : Nat} (h : x < BB ^ k) : (digs x).length ≤ k := by
  induction k generalizing x with
  | zero => simp at h; subst h; rw [digs_zero]; simp
  | succ k ih =>
    by_cases hx : x = 0
    · subst hx; rw [digs_zero]; simp
    · rw [digs_pos hx]
      simp only [List.length_cons]
      have := ih (x := x / BB) (Nat.div_lt_of_lt_mul (by rw [Nat.pow_succ, Nat.mul_comm] at h; exact h))
      omega

theorem BB_sq : BB ^ 2 = 18446744073709551616 := by decide

theorem digs_len_of_le {x y k : Nat} (h : x ≤ y) (hy : (digs y).length ≤ k) : (digs x).length ≤ k := Nat.le_trans (digs_length_mono h) hy

/-- The loop of Gcd. -/
def GcdRel (W : World) (G N k : Nat) (X Y : Value) (wr : World) : Prop :=
  ∃ (x y : Nat) (A A' : Option Addr) (n c n' c' : Nat), X = .slice A n c ∧ Y = .slice A' n' c' ∧ Words wr (.slice A n c) (digs x) ∧ Words wr (.slice A' n' c') (digs y) ∧ Nat.gcd x y = G ∧ y = k ∧ (digs x).length ≤ N ∧ (digs y).length ≤ N ∧ Ext W wr

/-- The inner loop, on two numbers of one word. -/
def EucRel (G : Nat) (m n : Value) : Prop := ∃ p q : Nat, m = .int .u64 p ∧ n = .int .u64 q ∧ p < 18446744073709551616 ∧ q < 18446744073709551616 ∧ Nat.gcd p q = G

theorem Words.len {w : World} {A : Option Addr} {n c : Nat} {l : List Nat} (h : Words w (.slice A n c) l) : n = l.length := by
  obtain ⟨A', c', hv, _⟩ := h
  injection hv

set_option maxRecDepth 100000 in
set_option maxHeartbeats 2000000 in
theorem gcd_any (b b' : Bool) (A A' : Option Addr) (n c n' c' : Nat) (x y : Int) (w : World) (h : IsInt w (.bool b) (.slice A n c) x) (h' : IsInt w (.bool b') (.slice A' n' c') y) (hn : (digs x.natAbs).length ≤ 4398046511104) (hn' : (digs y.natAbs).length ≤ 4398046511104) :
    Calls Tryz.prog 90 #[.agg #[.bool b, .slice A n c], .agg #[.bool b', .slice A' n' c']] w (RetInt (Nat.gcd x.natAbs y.natAbs) w) := by
  replace h := hide h
  replace h' := hide h'
  replace hn := hide hn
  replace hn' := hide hn'
  go_enter Tryz.func90, Tryz.ntmps90
  go_wp2
  refine wp_region_v (by kernel_rfl) [[], [(11, 0)], [(12, 1)], [(13, 2)], [], [(15, 4)], [(16, 5)], [(17, 6)]] [[], [0], [0, 1], [0, 1, 2], [], [4], [0, 1, 2, 3, 4, 5], [0, 1, 2, 3, 4, 5, 6]]
    [fun v _ => v = .pointer (some ⟨w.heap.size, 1, none⟩), fun v _ => v = .slice A n c, fun v w' => ∃ A n c, v = .slice A n c ∧ Words w' (.slice A n c) (digs x.natAbs), fun v w' => ∃ A n c, v = .slice A n c ∧ Words w' (.slice A n c) (digs x.natAbs), fun v _ => v = .pointer (some ⟨w.heap.size + 1, 1, none⟩), fun v _ => v = .slice A' n' c', fun v w' => ∃ A n c, v = .slice A n c ∧ Words w' (.slice A n c) (digs y.natAbs), fun v w' => ∃ A n c, v = .slice A n c ∧ Words w' (.slice A n c) (digs y.natAbs)]
    rfl (by kernel_rfl) (by kernel_rfl) ?stab ?steps ?fin
  case stab => exact .cons (Stab.eq _) (.cons (Stab.eq _) (.cons (fun _ _ _ he ⟨A, n, c, h1, h2⟩ => ⟨A, n, c, h1, h2.ext he⟩) (.cons (fun _ _ _ he ⟨A, n, c, h1, h2⟩ => ⟨A, n, c, h1, h2.ext he⟩) (.cons (Stab.eq _) (.cons (Stab.eq _) (.cons (fun _ _ _ he ⟨A, n, c, h1, h2⟩ => ⟨A, n, c, h1, h2.ext he⟩) (.cons (fun _ _ _ he ⟨A, n, c, h1, h2⟩ => ⟨A, n, c, h1, h2.ext he⟩) .nil)))))))
  case steps =>
    refine .cons ?s0 (.cons ?s1 (.cons ?s2 (.cons ?s3 (.cons ?s4 (.cons ?s5 (.cons ?s6 (.cons ?s7 .nil)))))))
    case s0 =>
      intro w' ev hE hk ha hc hf
      have e2 : ev (.tmp 2) = .pointer (some ⟨w.heap.size, 0, none⟩) := ha 2 (by decide)
      exact opStep_val (by simp [execOp, e2, go_sem]) rfl
    case s1 =>
      intro w' ev hE hk ha hc hf
      have e11 : ev (.tmp 11) = .pointer (some ⟨w.heap.size, 1, none⟩) := hk.1 _ rfl
      have c0 : w'.cell? ⟨w.heap.size, 1, none⟩ = some (.slice A n c) := hE.cellv (((((Blk.new _ _ _).alloc _).alloc _).drew.cell 1))
      exact opStep_val (by simp [execOp, e11, c0, go_sem]) rfl
    case s2 =>
      intro w' ev hE hk ha hc hf
      have e12 : ev (.tmp 12) = .slice A n c := hk.1 _ rfl
      refine opStep_call (by simp [execOp, resolve, invoke, hf, e12, go_sem]) (trim_any _ _ _ (h.out.2.ext (((((Ext.refl _).alloc _).alloc _).alloc _).drew.trans hE))) ?_
      rintro e w1 ⟨v1, rfl, hW1, hE1⟩
      obtain ⟨A1, n1, c1, rfl⟩ := hW1.form
      exact ⟨_, rfl, hE1, _, _, _, rfl, by rw [trimW_eq_digs (small_digs _), val_digs] at hW1; exact hW1⟩
    case s3 =>
      intro w' ev hE hk ha hc hf
      have f13 := hk.1 _ rfl
      obtain ⟨A3, n3, c3, e13, hw3⟩ := f13
      refine opStep_call (by simp [execOp, resolve, invoke, hf, e13, go_sem]) (clone_any _ _ _ hw3 (by have := hn.out; omega)) ?_
      rintro e w1 ⟨v1, rfl, hW1, hE1⟩
      obtain ⟨A1, n1, c1, rfl⟩ := hW1.form
      exact ⟨_, rfl, hE1, _, _, _, rfl, by skip; exact hW1⟩
    case s4 =>
      intro w' ev hE hk ha hc hf
      have e3 : ev (.tmp 3) = .pointer (some ⟨w.heap.size + 1, 0, none⟩) := ha 3 (by decide)
      exact opStep_val (by simp [execOp, e3, go_sem]) rfl
    case s5 =>
      intro w' ev hE hk ha hc hf
      have e15 : ev (.tmp 15) = .pointer (some ⟨w.heap.size + 1, 1, none⟩) := hk.1 _ rfl
      have c0 : w'.cell? ⟨w.heap.size + 1, 1, none⟩ = some (.slice A' n' c') := hE.cellv ((((Blk.new' _ _ (by simp)).alloc _).drew.cell 1))
      exact opStep_val (by simp [execOp, e15, c0, go_sem]) rfl
    case s6 =>
      intro w' ev hE hk ha hc hf
      have e16 : ev (.tmp 16) = .slice A' n' c' := hk.1 _ rfl
      refine opStep_call (by simp [execOp, resolve, invoke, hf, e16, go_sem]) (trim_any _ _ _ (h'.out.2.ext (((((Ext.refl _).alloc _).alloc _).alloc _).drew.trans hE))) ?_
      rintro e w1 ⟨v1, rfl, hW1, hE1⟩
      obtain ⟨A1, n1, c1, rfl⟩ := hW1.form
      exact ⟨_, rfl, hE1, _, _, _, rfl, by rw [trimW_eq_digs (small_digs _), val_digs] at hW1; exact hW1⟩
    case s7 =>
      intro w' ev hE hk ha hc hf
      have f17 := hk.1 _ rfl
      obtain ⟨A3, n3, c3, e17, hw3⟩ := f17
      refine opStep_call (by simp [execOp, resolve, invoke, hf, e17, go_sem]) (clone_any _ _ _ hw3 (by have := hn'.out; omega)) ?_
      rintro e w1 ⟨v1, rfl, hW1, hE1⟩
      obtain ⟨A1, n1, c1, rfl⟩ := hW1.form
      exact ⟨_, rfl, hE1, _, _, _, rfl, by skip; exact hW1⟩
  case fin =>
    intro g w' hE hF
    obtain ⟨AX, nX, cX, e3, hX⟩ := hF 3 _ rfl
    obtain ⟨AY, nY, cY, e7, hY⟩ := hF 7 _ rfl
    simp only [List.length_cons, List.length_nil, Nat.reduceAdd, List.drop_succ_cons, List.drop_zero, List.take_succ_cons, List.take_zero, putG, Act.put, List.setIfInBounds_toArray, List.set_cons_succ, List.set_cons_zero, e3, e7]
    clear hF e3 e7
    replace hX := hide hX
    replace hY := hide hY
    replace hE := hide hE
    generalize hG : Nat.gcd x.natAbs y.natAbs = G at *
    replace hG := hide hG
    go_wp2
    go_loopg [5, 6] (y.natAbs) (fun k X Y wr => GcdRel (((w.alloc (Obj.cells #[Value.bool b, Value.slice A n c] 72)).alloc (Obj.cells #[Value.bool b', Value.slice A' n' c'] 72)).alloc (Obj.cells #[Value.bool false, Value.slice none 0 0] 72)).drew G 4398046511104 k X Y wr)
    case atStart => exact ⟨_, _, _, _, _, _, _, _, rfl, rfl, hX.out, hY.out, hG.out, rfl, hn.out, hn'.out, hE.out⟩
    case round =>
      obtain ⟨p, q, A1, A2, n1, c1, n2, c2, rfl, rfl, hW1, hW2, hgc, rfl, hl1, hl2, hEr⟩ := hrel
      clear hX hY hE
      have en1 := hW1.len
      have en2 := hW2.len
      by_cases hq0 : q = 0
      · subst hq0
        obtain rfl : n2 = 0 := by rw [en2, digs_zero]; rfl
        have hp : Hid (p = G) := by show p = G; rw [← hgc]; simp
        replace hW1 := hide hW1
        replace hEr := hide hEr
        clear en1 en2 hgc hW2 hl1 hl2
        go_wp2_with fail
        refine (signed_any _ _ _ _ hW1.out).mono ?_
        rintro e w2 ⟨b2, A2, n2, k2, rfl, hI2, hE2⟩
        rw [val_digs, hp.out] at hI2
        replace hE2 := hide (hEr.out.trans hE2)
        replace hI2 := hide hI2
        obtain ⟨hcell, hfr⟩ := hE2.out.cells
        go_wp2
        refine bodyPost_ret (v := .agg #[.bool b2, .slice A2 n2 k2]) (by simp [results, Tryz.results90, go_sem, hcell]) rfl ⟨_, _, _, _, rfl, ?_, ?_⟩
        · have ht : Ty w2 (w.heap.size + 2) 72 := (Ty.new' _ _ (by simp)).drew.ext hE2.out
          exact (hI2.out.set ht (by decide) _).set (ht.set _ _) (by decide) _
        · exact (((((Ext.refl _).alloc _).alloc _).alloc _).drew.trans hE2.out |>.set (by simp <;> omega) _).set (by simp <;> omega) _
      · have hn2 : 0 < n2 := by
          rcases Nat.eq_zero_or_pos n2 with h0 | h0
          · exact absurd (digs_length_zero.1 (en2.symm.trans h0)) hq0
          · exact h0
        by_cases hsm : n1 ≤ 2 ∧ n2 ≤ 2
        · obtain ⟨hs1, hs2⟩ := hsm
          have hpB : p < 18446744073709551616 := by rw [← BB_sq]; exact lt_of_digs (by omega)
          have hqB : q < 18446744073709551616 := by rw [← BB_sq]; exact lt_of_digs (by omega)
          have hl1' : (digs p).length ≤ 2 := by omega
          have hl2' : (digs q).length ≤ 2 := by omega
          replace hW1 := hide hW1
          replace hW2 := hide hW2
          replace hEr := hide hEr
          replace hgc := hide hgc
          replace hl1' := hide hl1'
          replace hl2' := hide hl2'
          replace hpB := hide hpB
          replace hqB := hide hqB
          clear en1 en2 hl1 hl2
          have d1 : decide ((n1 : Int) ≤ 2) = true := by simp; omega
          have d2 : decide ((n2 : Int) ≤ 2) = true := by simp; omega
          go_wp2_with fail
          refine (value_any _ _ _ hW1.out hl1'.out).mono ?_
          rintro e w1 ⟨rfl, hE1⟩
          replace hW2 := hide (hW2.out.ext hE1)
          replace hE1 := hide (hEr.out.trans hE1)
          go_wp2_with fail
          refine (value_any _ _ _ hW2.out hl2'.out).mono ?_
          rintro e w2 ⟨rfl, hE2⟩
          replace hE2 := hide (hE1.out.trans hE2)
          rw [val_digs, val_digs]
          go_wp2
          go_loopw [7, 8] (fun mm nn wr => EucRel G mm nn ∧ Hid (Ext (((w.alloc (Obj.cells #[Value.bool b, Value.slice A n c] 72)).alloc (Obj.cells #[Value.bool b', Value.slice A' n' c'] 72)).alloc (Obj.cells #[Value.bool false, Value.slice none 0 0] 72)).drew wr)) (fun _ nn _ => (intOf nn).toNat)
          case atStart => exact ⟨⟨p, q, rfl, rfl, hpB.out, hqB.out, hgc.out⟩, hE2.out⟩
          case round =>
            obtain ⟨⟨p, q, rfl, rfl, hp, hq, hg⟩, hEw⟩ := hrel
            clear hgc hpB hqB hE2 hE1 hEr hW1 hW2 hl1' hl2'
            replace hg := hide hg
            by_cases hz : q = 0
            · subst hz
              have hpG : Hid (p = G) := by show p = G; rw [← hg.out]; simp
              replace hp := hide hp
              go_wp2_with fail
              refine (words_any _ _ hp.out).mono ?_
              rintro e w3 ⟨v3, rfl, hW3, hE3⟩
              replace hE3 := hide (hEw.out.trans hE3)
              replace hW3 := hide hW3
              go_wp2_with fail
              refine (signed_any _ _ _ _ hW3.out).mono ?_
              rintro e w2 ⟨b2, A2, n2, k2, rfl, hI2, hE2⟩
              rw [val_digs, hpG.out] at hI2
              replace hE2 := hide (hE3.out.trans hE2)
              replace hI2 := hide hI2
              obtain ⟨hcell, hfr⟩ := hE2.out.cells
              go_wp2
              refine bodyPost_ret (v := .agg #[.bool b2, .slice A2 n2 k2]) (by simp [results, Tryz.results90, go_sem, hcell]) rfl ⟨_, _, _, _, rfl, ?_, ?_⟩
              · have ht : Ty w2 (w.heap.size + 2) 72 := (Ty.new' _ _ (by simp)).drew.ext hE2.out
                exact (hI2.out.set ht (by decide) _).set (ht.set _ _) (by decide) _
              · exact (((((Ext.refl _).alloc _).alloc _).alloc _).drew.trans hE2.out |>.set (by simp <;> omega) _).set (by simp <;> omega) _
            · have hq1 : (1 : Int) ≤ q := by omega
              have hm : Hid ((p : Int) % q = ((p % q : Nat) : Int)) := (Int.natCast_emod _ _).symm
              replace hp := hide hp
              have hq' := hide hq
              clear hq
              go_wp2
              go_quiet (fail)
              go_wp2
              rw [hm.out]
              refine ⟨⟨⟨q, p % q, rfl, rfl, hq'.out, ?_, ?_⟩, hEw.out.drewN _⟩, ?_⟩
              · have := Nat.mod_lt p (show 0 < q by omega)
                have := hq'.out
                omega
              · have := hg.out
                rw [← this, Nat.gcd_comm p q, Nat.gcd_rec q p, Nat.gcd_comm]
              · have := Nat.mod_lt p (show 0 < q by omega)
                simp only [intOf]
                omega
        · have hlen1 : (digs p).length ≤ 4398046511104 := hl1
          have hrec : Hid (Nat.gcd q (p % q) = G) := by
            show _ = G
            rw [← hgc, Nat.gcd_comm p q, Nat.gcd_rec q p, Nat.gcd_comm]
          have hlr : Hid ((digs (p % q)).length ≤ 4398046511104) := digs_len_of_le (Nat.le_of_lt (Nat.mod_lt p (Nat.pos_of_ne_zero hq0))) hl2
          have hqv : Hid (val (digs q) ≠ 0) := by show _ ≠ 0; rw [val_digs]; exact hq0
          have hlt : Hid (p % q < q) := Nat.mod_lt p (Nat.pos_of_ne_zero hq0)
          replace hW1 := hide hW1
          replace hW2 := hide hW2
          replace hEr := hide hEr
          replace hlen1 := hide hlen1
          replace hl2 := hide hl2
          clear en1 en2 hgc hl1 hq0
          have hdd : Hid (¬ (n1 ≤ 2 ∧ n2 ≤ 2)) := hsm
          clear hsm
          by_cases d1 : n1 ≤ 2
          · have hd1 : decide ((n1 : Int) ≤ 2) = true := by simp; omega
            have hd2 : decide ((n2 : Int) ≤ 2) = false := by have := hdd.out; simp; omega
            clear hdd
            go_wp2_with fail
            refine (divide_any _ _ _ _ _ hW1.out hW2.out hlen1.out hqv.out).mono ?_
            rintro e w2 ⟨A3, A4, n3, c3, n4, c4, rfl, hW3, hW4, hE2⟩
            rw [val_digs, val_digs] at hW4
            replace hW2 := hide (hW2.out.ext hE2)
            replace hE2 := hide (hEr.out.trans hE2)
            replace hW4 := hide hW4
            clear hW3
            go_wp2
            go_roundg (p % q)
            case measure => exact hlt.out
            case rel => exact ⟨_, _, _, _, _, _, _, _, rfl, rfl, hW2.out, hW4.out, hrec.out, rfl, hl2.out, hlr.out, hE2.out⟩
          · have hd1 : decide ((n1 : Int) ≤ 2) = false := by simp; omega
            clear hdd
            go_wp2_with fail
            refine (divide_any _ _ _ _ _ hW1.out hW2.out hlen1.out hqv.out).mono ?_
            rintro e w2 ⟨A3, A4, n3, c3, n4, c4, rfl, hW3, hW4, hE2⟩
            rw [val_digs, val_digs] at hW4
            replace hW2 := hide (hW2.out.ext hE2)
            replace hE2 := hide (hEr.out.trans hE2)
            replace hW4 := hide hW4
            clear hW3
            go_wp2
            go_roundg (p % q)
            case measure => exact hlt.out
            case rel => exact ⟨_, _, _, _, _, _, _, _, rfl, rfl, hW2.out, hW4.out, hrec.out, rfl, hl2.out, hlr.out, hE2.out⟩

end Go.Proofs.YteefhmdameeoaaaGreat
namespace Go.Proofs.YteefhmdameeoaaaGreat
open Go.RowKit

/-- The call returns quotient and remainder, and no error. -/
def RetDM (q r : Int) (w : World) (e : Ending) (w' : World) : Prop :=
  ∃ (b b' : Bool) (A A' : Option Addr) (n c n' c' : Nat), e = .returned (.tuple #[.agg #[.bool b, .slice A n c], .agg #[.bool b', .slice A' n' c'], .int .i64 0]) ∧ IsInt w' (.bool b) (.slice A n c) q ∧ IsInt w' (.bool b') (.slice A' n' c') r ∧ Ext w w'

theorem ediv_unique {x y q r : Int} (hy : y ≠ 0) (h : r + y * q = x) (h0 : 0 ≤ r) (h1 : r < y.natAbs) : x / y = q ∧ x % y = r := by
  rcases Int.lt_or_gt_of_ne hy with hneg | hpos
  · have := (Int.ediv_emod_unique' (a := x) (b := y) (r := r) (q := q) hneg).2 ⟨h, h0, by omega⟩
    exact this
  · have := (Int.ediv_emod_unique (a := x) (b := y) (r := r) (q := q) hpos).2 ⟨h, h0, by omega⟩
    exact this

theorem dm_plain {x y : Int} (hy : y ≠ 0) (h : ¬ x < 0 ∨ x.natAbs % y.natAbs = 0) : x / y = sgn (!(decide (x < 0) == decide (y < 0))) (x.natAbs / y.natAbs) ∧ x % y = sgn false (x.natAbs % y.natAbs) := by
  have hyp : 0 < y.natAbs := by omega
  have e := Nat.div_add_mod x.natAbs y.natAbs
  have hlt := Nat.mod_lt x.natAbs hyp
  generalize x.natAbs / y.natAbs = q at *
  generalize x.natAbs % y.natAbs = r at *
  have e' : (y.natAbs : Int) * q + r = x.natAbs := by exact_mod_cast e
  refine ediv_unique hy ?_ (by simp [sgn]) (by simp [sgn]; omega)
  have hsx := sgn_self (z := x)
  have hsy := sgn_self (z := y)
  by_cases hx : x < 0
  · have hr : r = 0 := by rcases h with h | h
                          · exact absurd hx h
                          · exact h
    subst hr
    by_cases hy2 : y < 0
    · have ex : (x.natAbs : Int) = -x := by omega
      have ey : (y.natAbs : Int) = -y := by omega
      rw [ex, ey] at e'
      simp [sgn, hx, hy2]
      rw [Int.neg_mul] at e'
      omega
    · have ex : (x.natAbs : Int) = -x := by omega
      have ey : (y.natAbs : Int) = y := by omega
      rw [ex, ey] at e'
      simp [sgn, hx, hy2]
      rw [Int.mul_neg]
      omega
  · by_cases hy2 : y < 0
    · have ex : (x.natAbs : Int) = x := by omega
      have ey : (y.natAbs : Int) = -y := by omega
      rw [ex, ey] at e'
      simp [sgn, hx, hy2]
      rw [Int.mul_neg]
      rw [Int.neg_mul] at e'
      omega
    · have ex : (x.natAbs : Int) = x := by omega
      have ey : (y.natAbs : Int) = y := by omega
      rw [ex, ey] at e'
      simp [sgn, hx, hy2]
      omega

theorem dm_up {x y : Int} (hy : y ≠ 0) (hx : x < 0) (h : x.natAbs % y.natAbs ≠ 0) : x / y = sgn (!(decide (x < 0) == decide (y < 0))) (x.natAbs / y.natAbs + 1) ∧ x % y = sgn false (y.natAbs - x.natAbs % y.natAbs) := by
  have hyp : 0 < y.natAbs := by omega
  have e := Nat.div_add_mod x.natAbs y.natAbs
  have hlt := Nat.mod_lt x.natAbs hyp
  generalize x.natAbs / y.natAbs = q at *
  generalize x.natAbs % y.natAbs = r at *
  have e' : (y.natAbs : Int) * q + r = x.natAbs := by exact_mod_cast e
  refine ediv_unique hy ?_ (by simp [sgn]) (by simp [sgn]; omega)
  have ex : (x.natAbs : Int) = -x := by omega
  by_cases hy2 : y < 0
  · have ey : (y.natAbs : Int) = -y := by omega
    have e2 : ((y.natAbs - r : Nat) : Int) = -y - r := by omega
    rw [ex, ey] at e'
    simp only [sgn, hx, hy2, decide_true, beq_self_eq_true, Bool.not_true, Bool.false_eq_true, if_false, e2, Int.natCast_add, Int.natCast_one, Int.mul_add, Int.mul_one]
    rw [Int.neg_mul] at e'
    omega
  · have ey : (y.natAbs : Int) = y := by omega
    have e2 : ((y.natAbs - r : Nat) : Int) = y - r := by omega
    rw [ex, ey] at e'
    simp only [sgn, hx, hy2, decide_true, decide_false, Bool.false_eq_true, if_false, e2, Int.natCast_add, Int.natCast_one]
    simp only [show (true == false) = false from rfl, Bool.not_false, if_true, Int.mul_neg, Int.mul_add, Int.mul_one]
    omega

end Go.Proofs.YteefhmdameeoaaaGreat
namespace Go.Proofs.YteefhmdameeoaaaGreat
open Go.RowKit

set_option maxRecDepth 100000 in
set_option maxHeartbeats 2000000 in
theorem divmod_plain (b b' : Bool) (A A' : Option Addr) (n c n' c' : Nat) (x y : Int) (w : World) (h : IsInt w (.bool b) (.slice A n c) x) (h' : IsInt w (.bool b') (.slice A' n' c') y) (hn : (digs x.natAbs).length ≤ 4398046511104) (hn' : (digs y.natAbs).length ≤ 4398046511104) (hy : y ≠ 0) (hc : ¬ x < 0 ∨ x.natAbs % y.natAbs = 0) :
    Calls Tryz.prog 91 #[.agg #[.bool b, .slice A n c], .agg #[.bool b', .slice A' n' c']] w (RetDM (x / y) (x % y) w) := by
  have hd := hide h.bool_eq
  have hd' := hide h'.bool_eq
  have hq := hide (dm_plain hy hc)
  have hy0 : Hid (y.natAbs ≠ 0) := by show _ ≠ 0; omega
  replace h := hide h
  replace h' := hide h'
  replace hn := hide hn
  replace hn' := hide hn'
  replace hc := hide hc
  go_enter Tryz.func91, Tryz.ntmps91
  go_wp2_with fail
  refine (trim_any _ _ _ (h'.out.2.ext (((((Ext.refl _).alloc _).alloc _).alloc _).alloc _))).mono ?_
  rintro e w1 ⟨v1, rfl, hW1, hE1⟩
  rw [trimW_eq_digs (small_digs _), val_digs] at hW1
  obtain ⟨A1, n1, c1, rfl⟩ := hW1.form
  have hn1 : n1 ≠ 0 := by rw [hW1.len]; exact fun e => hy0.out (digs_length_zero.1 e)
  have hn1' : ((n1 : Int) == 0) = false := by simpa using hn1
  clear hn1 hW1
  obtain ⟨hcell, hfr⟩ := hE1.cells
  replace hE1 := hide hE1
  go_wp2_with fail
  refine (divide_any _ _ _ _ _ (h.out.2.ext ((((((Ext.refl _).alloc _).alloc _).alloc _).alloc _).trans hE1.out)) (h'.out.2.ext ((((((Ext.refl _).alloc _).alloc _).alloc _).alloc _).trans hE1.out)) hn.out (by rw [val_digs]; exact hy0.out)).mono ?_
  rintro e w2 ⟨A3, A4, n3, c3, n4, c4, rfl, hW3, hW4, hE2⟩
  rw [val_digs, val_digs] at hW3 hW4
  have hcond : Hid (b = false ∨ n4 = 0) := by
    rcases hc.out with hc | hc
    · left; rw [hd.out]; simpa using hc
    · rw [hc] at hW4
      exact .inr (by rw [hW4.len, digs_zero]; rfl)
  replace hE2 := hide (hE1.out.trans hE2)
  clear hcell hfr
  obtain ⟨hcell, hfr⟩ := hE2.out.cells
  replace hW3 := hide hW3
  replace hW4 := hide hW4
  clear hn1'
  cases b with
  | false =>
    clear hcond
    go_wp2_with fail
    refine (signed_any _ _ _ _ hW3.out).mono ?_
    rintro e w3 ⟨b5, A5, n5, c5, rfl, hI5, hE3⟩
    rw [val_digs, show b' = !(decide (x < 0) == decide (y < 0)) by rw [← hd.out, ← hd'.out]; cases b' <;> rfl, ← hq.out.1] at hI5
    replace hW4 := hide (hW4.out.ext hE3)
    replace hI5 := hide hI5
    replace hE3 := hide (hE2.out.trans hE3)
    clear hcell hfr
    obtain ⟨hcell, hfr⟩ := hE3.out.cells
    go_wp2_with fail
    refine (signed_any _ _ _ _ hW4.out).mono ?_
    rintro e w4 ⟨b6, A6, n6, c6, rfl, hI6, hE4⟩
    rw [val_digs, ← hq.out.2] at hI6
    replace hI5 := hide (hI5.out.ext hE4)
    replace hI6 := hide hI6
    replace hE4 := hide (hE3.out.trans hE4)
    clear hcell hfr
    obtain ⟨hcell, hfr⟩ := hE4.out.cells
    go_wp2
    refine bodyPost_ret (v := .tuple #[.agg #[.bool b5, .slice A5 n5 c5], .agg #[.bool b6, .slice A6 n6 c6], .int .i64 0]) (by simp [results, Tryz.results91, go_sem, hcell]) rfl ⟨_, _, _, _, _, _, _, _, rfl, ?_, ?_, ?_⟩
    · have ht : Ty w4 (w.heap.size + 2) 72 := ((Ty.new' _ _ (by simp)).alloc _).ext hE4.out
      have ht' : Ty w4 (w.heap.size + 3) 72 := (Ty.new' _ _ (by simp)).ext hE4.out
      exact (((hI5.out.set ht (by decide) _).set (ht.set _ _) (by decide) _).set ((ht'.set _ _).set _ _) (by decide) _).set (((ht'.set _ _).set _ _).set _ _) (by decide) _
    · have ht : Ty w4 (w.heap.size + 2) 72 := ((Ty.new' _ _ (by simp)).alloc _).ext hE4.out
      have ht' : Ty w4 (w.heap.size + 3) 72 := (Ty.new' _ _ (by simp)).ext hE4.out
      exact (((hI6.out.set ht (by decide) _).set (ht.set _ _) (by decide) _).set ((ht'.set _ _).set _ _) (by decide) _).set (((ht'.set _ _).set _ _).set _ _) (by decide) _
    · exact ((((((((Ext.refl _).alloc _).alloc _).alloc _).alloc _).trans hE4.out |>.set (by simp <;> omega) _).set (by simp <;> omega) _).set (by simp <;> omega) _).set (by simp <;> omega) _
  | true =>
    obtain rfl : n4 = 0 := by
      rcases hcond.out with h0 | h0
      · cases h0
      · exact h0
    clear hcond
    go_wp2_with fail
    refine (signed_any _ _ _ _ hW3.out).mono ?_
    rintro e w3 ⟨b5, A5, n5, c5, rfl, hI5, hE3⟩
    rw [val_digs, show (!b') = !(decide (x < 0) == decide (y < 0)) by rw [← hd.out, ← hd'.out]; cases b' <;> rfl, ← hq.out.1] at hI5
    replace hW4 := hide (hW4.out.ext hE3)
    replace hI5 := hide hI5
    replace hE3 := hide (hE2.out.trans hE3)
    clear hcell hfr
    obtain ⟨hcell, hfr⟩ := hE3.out.cells
    go_wp2_with fail
    refine (signed_any _ _ _ _ hW4.out).mono ?_
    rintro e w4 ⟨b6, A6, n6, c6, rfl, hI6, hE4⟩
    rw [val_digs, ← hq.out.2] at hI6
    replace hI5 := hide (hI5.out.ext hE4)
    replace hI6 := hide hI6
    replace hE4 := hide (hE3.out.trans hE4)
    clear hcell hfr
    obtain ⟨hcell, hfr⟩ := hE4.out.cells
    go_wp2
    refine bodyPost_ret (v := .tuple #[.agg #[.bool b5, .slice A5 n5 c5], .agg #[.bool b6, .slice A6 n6 c6], .int .i64 0]) (by simp [results, Tryz.results91, go_sem, hcell]) rfl ⟨_, _, _, _, _, _, _, _, rfl, ?_, ?_, ?_⟩
    · have ht : Ty w4 (w.heap.size + 2) 72 := ((Ty.new' _ _ (by simp)).alloc _).ext hE4.out
      have ht' : Ty w4 (w.heap.size + 3) 72 := (Ty.new' _ _ (by simp)).ext hE4.out
      exact (((hI5.out.set ht (by decide) _).set (ht.set _ _) (by decide) _).set ((ht'.set _ _).set _ _) (by decide) _).set (((ht'.set _ _).set _ _).set _ _) (by decide) _
    · have ht : Ty w4 (w.heap.size + 2) 72 := ((Ty.new' _ _ (by simp)).alloc _).ext hE4.out
      have ht' : Ty w4 (w.heap.size + 3) 72 := (Ty.new' _ _ (by simp)).ext hE4.out
      exact (((hI6.out.set ht (by decide) _).set (ht.set _ _) (by decide) _).set ((ht'.set _ _).set _ _) (by decide) _).set (((ht'.set _ _).set _ _).set _ _) (by decide) _
    · exact ((((((((Ext.refl _).alloc _).alloc _).alloc _).alloc _).trans hE4.out |>.set (by simp <;> omega) _).set (by simp <;> omega) _).set (by simp <;> omega) _).set (by simp <;> omega) _

set_option maxRecDepth 100000 in
set_option maxHeartbeats 2000000 in
theorem divmod_up (b b' : Bool) (A A' : Option Addr) (n c n' c' : Nat) (x y : Int) (w : World) (h : IsInt w (.bool b) (.slice A n c) x) (h' : IsInt w (.bool b') (.slice A' n' c') y) (hn : (digs x.natAbs).length ≤ 4398046511104) (hn' : (digs y.natAbs).length ≤ 4398046511104) (hy : y ≠ 0) (hx : x < 0) (hc : x.natAbs % y.natAbs ≠ 0) :
    Calls Tryz.prog 91 #[.agg #[.bool b, .slice A n c], .agg #[.bool b', .slice A' n' c']] w (RetDM (x / y) (x % y) w) := by
  have hd := hide h.bool_eq
  have hd' := hide h'.bool_eq
  have hq := hide (dm_up hy hx hc)
  have hy0 : Hid (y.natAbs ≠ 0) := by show _ ≠ 0; omega
  replace h := hide h
  replace h' := hide h'
  replace hn := hide hn
  replace hn' := hide hn'
  replace hc := hide hc
  replace hx := hide hx
  go_enter Tryz.func91, Tryz.ntmps91
  go_wp2_with fail
  refine (trim_any _ _ _ (h'.out.2.ext (((((Ext.refl _).alloc _).alloc _).alloc _).alloc _))).mono ?_
  rintro e w1 ⟨v1, rfl, hW1, hE1⟩
  rw [trimW_eq_digs (small_digs _), val_digs] at hW1
  obtain ⟨A1, n1, c1, rfl⟩ := hW1.form
  have hn1 : n1 ≠ 0 := by rw [hW1.len]; exact fun e => hy0.out (digs_length_zero.1 e)
  have hn1' : ((n1 : Int) == 0) = false := by simpa using hn1
  clear hn1 hW1
  obtain ⟨hcell, hfr⟩ := hE1.cells
  replace hE1 := hide hE1
  go_wp2_with fail
  refine (divide_any _ _ _ _ _ (h.out.2.ext ((((((Ext.refl _).alloc _).alloc _).alloc _).alloc _).trans hE1.out)) (h'.out.2.ext ((((((Ext.refl _).alloc _).alloc _).alloc _).alloc _).trans hE1.out)) hn.out (by rw [val_digs]; exact hy0.out)).mono ?_
  rintro e w2 ⟨A3, A4, n3, c3, n4, c4, rfl, hW3, hW4, hE2⟩
  rw [val_digs, val_digs] at hW3 hW4
  have hn4 : 0 < n4 := by
    rw [hW4.len]
    rcases Nat.eq_zero_or_pos (digs (x.natAbs % y.natAbs)).length with h0 | h0
    · exact absurd (digs_length_zero.1 h0) hc.out
    · exact h0
  have hqn : Hid ((digs (x.natAbs / y.natAbs)).length ≤ 4398046511104) := digs_len_of_le (Nat.div_le_self _ _) hn.out
  have hrn : Hid (x.natAbs % y.natAbs ≤ y.natAbs) := Nat.le_of_lt (Nat.mod_lt _ (Nat.pos_of_ne_zero hy0.out))
  replace hE2 := hide (hE1.out.trans hE2)
  clear hcell hfr
  obtain ⟨hcell, hfr⟩ := hE2.out.cells
  replace hW3 := hide hW3
  replace hW4 := hide hW4
  obtain rfl : b = true := by rw [hd.out]; simpa using hx.out
  have hdn : decide ((0 : Int) < n4) = true := by simp; omega
  clear hn1'
  have hone : Hid (Words (w2.alloc (.cells #[.int .u32 1] 105)) (.slice (some ⟨w2.heap.size, 0, none⟩) 1 1) [1]) := Words.of_blk (l := [1]) (c := 1) (Blk.new _ _ _) (fun x hx => by simp at hx; subst hx; exact one_lt_BB) (by simp) (by omega)
  go_wp2_with fail
  refine (sum_any _ _ _ _ _ (hW3.out.ext ((Ext.refl _).alloc _)) hone.out hqn.out (by simp)).mono ?_
  rintro e w3 ⟨v3, rfl, hW5, hE3⟩
  obtain ⟨A5', n5', c5', rfl⟩ := hW5.form
  have hW3 := hW5
  rw [val_digs, show val [1] = 1 from rfl] at hW3
  clear hW5 hone
  replace hE3 := ((Ext.refl _).alloc _).trans hE3
  replace hW4 := hide (hW4.out.ext hE3)
  replace hE2 := hide (hE2.out.trans hE3)
  replace hW3 := hide hW3
  clear hcell hfr hE3
  obtain ⟨hcell, hfr⟩ := hE2.out.cells
  go_wp2_with fail
  refine (difference_any _ _ _ _ _ (h'.out.2.ext ((((((Ext.refl _).alloc _).alloc _).alloc _).alloc _).trans hE2.out)) hW4.out (by rw [val_digs, val_digs]; exact hrn.out) (digs_length_mono hrn.out) hn'.out).mono ?_
  rintro e w4 ⟨v4, rfl, hW5, hE3⟩
  obtain ⟨A6', n6', c6', rfl⟩ := hW5.form
  replace hW3 := hide (hW3.out.ext hE3)
  have hW4 := hW5
  rw [val_digs, val_digs] at hW4
  clear hW5
  replace hW4 := hide hW4
  replace hE2 := hide (hE2.out.trans hE3)
  clear hcell hfr hE3
  obtain ⟨hcell, hfr⟩ := hE2.out.cells
  go_wp2_with fail
  refine (signed_any _ _ _ _ hW3.out).mono ?_
  rintro e w5 ⟨b5, A5, n5, c5, rfl, hI5, hE3⟩
  rw [val_digs, show (!b') = !(decide (x < 0) == decide (y < 0)) by rw [← hd.out, ← hd'.out]; cases b' <;> rfl, ← hq.out.1] at hI5
  replace hW4 := hide (hW4.out.ext hE3)
  replace hI5 := hide hI5
  replace hE3 := hide (hE2.out.trans hE3)
  clear hcell hfr
  obtain ⟨hcell, hfr⟩ := hE3.out.cells
  go_wp2_with fail
  refine (signed_any _ _ _ _ hW4.out).mono ?_
  rintro e w6 ⟨b6, A6, n6, c6, rfl, hI6, hE4⟩
  rw [val_digs, ← hq.out.2] at hI6
  replace hI5 := hide (hI5.out.ext hE4)
  replace hI6 := hide hI6
  replace hE4 := hide (hE3.out.trans hE4)
  clear hcell hfr
  obtain ⟨hcell, hfr⟩ := hE4.out.cells
  go_wp2
  refine bodyPost_ret (v := .tuple #[.agg #[.bool b5, .slice A5 n5 c5], .agg #[.bool b6, .slice A6 n6 c6], .int .i64 0]) (by simp [results, Tryz.results91, go_sem, hcell]) rfl ⟨_, _, _, _, _, _, _, _, rfl, ?_, ?_, ?_⟩
  · have ht : Ty w6 (w.heap.size + 2) 72 := ((Ty.new' _ _ (by simp)).alloc _).ext hE4.out
    have ht' : Ty w6 (w.heap.size + 3) 72 := (Ty.new' _ _ (by simp)).ext hE4.out
    exact (((hI5.out.set ht (by decide) _).set (ht.set _ _) (by decide) _).set ((ht'.set _ _).set _ _) (by decide) _).set (((ht'.set _ _).set _ _).set _ _) (by decide) _
  · have ht : Ty w6 (w.heap.size + 2) 72 := ((Ty.new' _ _ (by simp)).alloc _).ext hE4.out
    have ht' : Ty w6 (w.heap.size + 3) 72 := (Ty.new' _ _ (by simp)).ext hE4.out
    exact (((hI6.out.set ht (by decide) _).set (ht.set _ _) (by decide) _).set ((ht'.set _ _).set _ _) (by decide) _).set (((ht'.set _ _).set _ _).set _ _) (by decide) _
  · exact ((((((((Ext.refl _).alloc _).alloc _).alloc _).alloc _).trans hE4.out |>.set (by simp <;> omega) _).set (by simp <;> omega) _).set (by simp <;> omega) _).set (by simp <;> omega) _

theorem divmod_any (b b' : Bool) (A A' : Option Addr) (n c n' c' : Nat) (x y : Int) (w : World) (h : IsInt w (.bool b) (.slice A n c) x) (h' : IsInt w (.bool b') (.slice A' n' c') y) (hn : (digs x.natAbs).length ≤ 4398046511104) (hn' : (digs y.natAbs).length ≤ 4398046511104) (hy : y ≠ 0) :
    Calls Tryz.prog 91 #[.agg #[.bool b, .slice A n c], .agg #[.bool b', .slice A' n' c']] w (RetDM (x / y) (x % y) w) := by
  by_cases hc : ¬ x < 0 ∨ x.natAbs % y.natAbs = 0
  · exact divmod_plain b b' A A' n c n' c' x y w h h' hn hn' hy hc
  · exact divmod_up b b' A A' n c n' c' x y w h h' hn hn' hy (by omega) (by omega)

end Go.Proofs.YteefhmdameeoaaaGreat
