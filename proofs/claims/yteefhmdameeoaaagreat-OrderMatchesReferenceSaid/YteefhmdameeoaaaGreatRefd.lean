/-
  Contracts of the reference's integers: divided.
-/
import Derived.Test.YteefhmdameeoaaaGreatRefc
import Derived.Test.YteefhmdameeoaaaGreatP3
import Derived.Laws.CopyRow
set_option linter.unusedSimpArgs false
set_option linter.unusedVariables false
namespace Go.Proofs.YteefhmdameeoaaaGreat
open Go.RowKit

theorem Words.old {w w' : World} {v : Value} {l : List Nat} (h : Words w v l) (hb : ∀ k, k < w.heap.size → w'.heap[k]? = w.heap[k]?) : Words w' v l := by
  obtain ⟨A, c, hv, hc, hm, hs, hx⟩ := h
  refine ⟨A, c, hv, hc, hm, hs, fun hp => ?_⟩
  obtain ⟨b, o, cs, fz, h1, h2, h3⟩ := hx hp
  exact ⟨b, o, cs, fz, h1, (hb b (lt_of_heap h2)).trans h2, h3⟩
theorem wpList_copy_go {P : Program} {w w' : World} {ops : Array Oper} {rest : List Oper} {o : Oper} {a : Act} {Q : Exit → Act → World → Prop} (hgd : o.guard = none) (s x : Operand) (t : TypeId)
    (ho : o.op = .call { callee := .builtin .copy, args := #[s, x], argTypes := #[t, t] }) (v u : Value) (hs : a.eval s = v) (hx : a.eval x = u) {v' : Value}
    (hrun : (Builtin.copy_ #[t, t] o.type #[v, u]).run P w = .ok v' w') (h : wpList P ops Q rest (a.put o.dst v') w') : wpList P ops Q (o :: rest) a w := by
  refine wpList_plain hgd fun K hK => ?_
  unfold Oper.wp execOp
  simp only [ho, resolve, invoke, builtin, Sem.run_bind, Sem.run_pure, Result.andThen_ok, List.map_toArray, List.map_cons, List.map_nil, hs, hx, hrun]
  exact hK _ _ h
/-- copy of words into a row of zeros -/
theorem run_copy_words {w : World} {g n : Nat} {A : Option Addr} {c : Nat} {l : List Nat} (hg : Blk w g 105 (wv (List.replicate n 0))) (h : Words w (.slice A l.length c) l) (h0 : 0 < l.length) (hl : l.length ≤ n) :
    ∃ w', (Builtin.copy_ #[70, 70] 3 #[.slice (some ⟨g, 0, none⟩) n n, .slice A l.length c]).run Tryz.prog w = .ok (goInt l.length) w' ∧ Blk w' g 105 (wv (l ++ List.replicate (n - l.length) 0)) ∧ Only g w w' := by
  obtain ⟨A', c', hv, _, _, hx⟩ := h.open_
  cases hv
  obtain ⟨b, o, rfl, hb, hcell⟩ := hx h0
  have hcs : (wv l).toList.length = l.length := by simp [wv]
  have hr := run_copy_row Tryz.prog w 70 70 3 105 g 0 n n ⟨b, o, none⟩ l.length c (wv (List.replicate n 0)) 105 (wv l).toList Tryz.underlying70 (by kernel_rfl) hg (by rw [hcs]; exact (Nat.min_eq_left hl).symm)
    (fun j v hj => by
      have hjl : j < l.length := by have := (List.getElem?_eq_some_iff.1 hj).1; omega
      rw [add_mk, hcell j hjl]
      rw [Array.getElem?_toList, wv_getD hjl] at hj
      exact hj) (by rw [hcs, wv_size]; simp; omega) (fun v hv => by simp [wv] at hv; obtain ⟨x, _, rfl⟩ := hv; rfl)
  rw [hcs] at hr
  refine ⟨_, hr, ?_, ⟨rfl, rfl, rfl, by simp [World.setRow], fun k _ hk => setRow_other w g k _ hk⟩⟩
  have e : ((wv (List.replicate n 0)).toList.take 0 ++ (wv l).toList ++ (wv (List.replicate n 0)).toList.drop (0 + l.length)).toArray = wv (l ++ List.replicate (n - l.length) 0) := by
    simp [wv]
  rw [e]
  exact setRow_heap w g _ _ 105 _ hg

/-- The loop of divided: k digits are still to come. -/
def DvRel (w wr : World) (gu gq : Nat) (ul v U Q : List Nat) (m n k : Nat) : Prop :=
  U.length = m + 1 ∧ Small U ∧ Blk wr gu 105 (wv U) ∧ Q.length = m - n + 1 ∧ Small Q ∧ Blk wr gq 105 (wv Q) ∧
  val (ul.drop k) = val (Q.drop k) * val v + val (U.drop k) ∧ U.take k = ul.take k ∧ val (U.drop k) < val v ∧ Below gu w wr
theorem DvRel.window {w wr : World} {gu gq : Nat} {ul v U Q : List Nat} {m n k : Nat} (h : DvRel w wr gu gq ul v U Q m n (k + 1)) (hk : k + n ≤ m) (hvl : v.length = n) (sv : Small v) :
    ∃ x post, x.length = n + 1 ∧ Small x ∧ Win wr gu (U.take k) x post ∧ val x < BB * val v ∧ val post = 0 ∧ U = U.take k ++ x ++ post ∧ val x = U.getD k 0 + BB * val (U.drop (k + 1)) ∧ (U.take k).length = k := by
  obtain ⟨h1, h2, h3, h4, h5, h6, h8, h9, h10, h11⟩ := h
  have hsplit : U = U.take k ++ (U.drop k).take (n + 1) ++ U.drop (k + (n + 1)) := by
    rw [List.append_assoc, ← List.drop_drop, List.take_append_drop, List.take_append_drop]
  have hVB : val v < BB ^ n := by
    have := val_lt sv
    rwa [hvl] at this
  have e1 := val_drop_succ (l := U) (k := k) (by omega)
  have e2 := val_drop_split U k (n + 1) (by omega)
  have hUk := small_getD h2 k
  have hub : val (U.drop k) < BB * val v := by
    have : BB * (val (U.drop (k + 1)) + 1) ≤ BB * val v := Nat.mul_le_mul_left _ h10
    rw [Nat.mul_add] at this
    omega
  have hp0 : val (U.drop (k + (n + 1))) = 0 := by
    rcases Nat.eq_zero_or_pos (val (U.drop (k + (n + 1)))) with h | h
    · exact h
    · exfalso
      have h12 : BB ^ (n + 1) * 1 ≤ BB ^ (n + 1) * val (U.drop (k + (n + 1))) := Nat.mul_le_mul_left _ h
      have h13 : BB * val v ≤ BB * BB ^ n := Nat.mul_le_mul_left _ (Nat.le_of_lt hVB)
      have h14 : BB ^ (n + 1) = BB * BB ^ n := by rw [Nat.pow_succ, Nat.mul_comm]
      omega
  rw [hp0, Nat.mul_zero, Nat.add_zero] at e2
  refine ⟨(U.drop k).take (n + 1), U.drop (k + (n + 1)), by simp; omega, small_take (small_drop h2 k) _, ?_, by rw [← e2]; exact hub, hp0, hsplit, by rw [← e2]; exact e1, by simp; omega⟩
  unfold Win
  rw [← hsplit]
  exact h3
theorem DvRel.step {w wr w1 : World} {gu gq : Nat} {ul v U Q x x' post : List Nat} {m n k q : Nat} (h : DvRel w wr gu gq ul v U Q m n (k + 1)) (hk : k + n ≤ m) (hul : ul.length = m + 1) (hx : x.length = n + 1) (hU : U = U.take k ++ x ++ post) (hpl : (U.take k).length = k) (hp0 : val post = 0) (hxv : val x = U.getD k 0 + BB * val (U.drop (k + 1)))
    (hx' : x'.length = n + 1) (sx' : Small x') (hW : Win w1 gu (U.take k) x' post) (hO : Only gu wr w1) (hq : q < BB) (hval : val x' + q * val v = val x) (hlt : val x' < val v) (hgq : gu < gq) {e : Int} (he : e = (q : Nat)) :
    DvRel w (w1.setCell ⟨gq, k, none⟩ (.int .u32 e)) gu gq ul v (U.take k ++ x' ++ post) (Q.set k q) m n k := by
  obtain ⟨h1, h2, h3, h4, h5, h6, h8, h9, h10, h11⟩ := h
  have sU : Small (U.take k) := small_take h2 k
  have sp : Small post := fun y hy => h2 y (by rw [hU]; simp [hy])
  have hk1 : k < U.length := by omega
  have hql : Blk w1 gq 105 (wv Q) := (hO.block gq (Blk.lt h6) (by omega)).trans h6
  have hd : (U.take k ++ x' ++ post).drop k = x' ++ post := by
    rw [List.append_assoc, List.drop_append, List.drop_eq_nil_of_le (by omega), hpl, Nat.sub_self]; rfl
  have ht : (U.take k ++ x' ++ post).take k = U.take k := by
    rw [List.append_assoc, List.take_append, hpl, Nat.sub_self, List.take_of_length_le (by omega)]; simp
  have hul' : ul.take k = U.take k := by
    have : (U.take (k + 1)).take k = (ul.take (k + 1)).take k := by rw [h9]
    rw [List.take_take, List.take_take, Nat.min_eq_left (by omega)] at this
    exact this.symm
  have huk : ul.getD k 0 = U.getD k 0 := by
    have : (U.take (k + 1)).getD k 0 = (ul.take (k + 1)).getD k 0 := by rw [h9]
    simp only [List.getD_eq_getElem?_getD, List.getElem?_take] at this
    simpa using this.symm
  refine ⟨?_, ?_, ?_, by simpa using h4, small_set h5 k hq, ?_, ?_, ?_, ?_, ?_⟩
  · have e1 : (U.take k ++ x ++ post).length = m + 1 := by rw [← hU]; exact h1
    simp only [List.length_append] at e1 ⊢
    omega
  · intro y hy
    rcases List.mem_append.1 hy with hy | hy
    · rcases List.mem_append.1 hy with hy | hy
      · exact sU y hy
      · exact sx' y hy
    · exact sp y hy
  · exact Blk.far hW (by dsimp only; omega) _
  · rw [he, ← wv_set]; exact hql.set k _
  · rw [hd, val_append0 hp0, val_drop_succ (l := ul) (by omega), val_drop_succ (l := Q.set k q) (by rw [List.length_set]; omega), drop_set_gt, getD_set_self (by omega), h8, huk]
    have : BB * (val (Q.drop (k + 1)) * val v + val (U.drop (k + 1))) = BB * val (Q.drop (k + 1)) * val v + BB * val (U.drop (k + 1)) := by rw [Nat.mul_add, Nat.mul_assoc]
    rw [this, Nat.add_mul]
    omega
  · rw [ht, hul']
  · rw [hd, val_append0 hp0]; exact hlt
  · have hb1 : Below gu w w1 := ⟨hO.os.trans h11.os, hO.tape.trans h11.tape, hO.output.trans h11.output, Nat.le_trans h11.size hO.size, fun i hi => (hO.block i (by have := Blk.lt h3; omega) (by omega)).trans (h11.block i hi)⟩
    exact Below.setCell hb1 (by dsimp only; omega) _
/-- The divisor times the number that makes its first word great. -/
theorem scaled_top {y n t D : Nat} (hl : (digs y).length = n + 1) (ht : (digs y).getD n 0 = t) (h0 : 0 < t) (hD : D = BB / (t + 1)) :
    0 < D ∧ D < BB ∧ (digs (y * D)).length = n + 1 ∧ 2147483648 ≤ (digs (y * D)).getD n 0 := by
  have htB : t < BB := by rw [← ht]; exact small_getD (small_digs y) n
  have hD1 : (t + 1) * D ≤ BB := by rw [hD]; exact Nat.mul_div_le BB (t + 1)
  have hD0 : 0 < D := by rw [hD]; exact Nat.div_pos (by omega) (by omega)
  have hDB : D < BB := by
    have : 2 * D ≤ (t + 1) * D := Nat.mul_le_mul_right _ (by omega)
    have := BB_pos
    omega
  have htD : 2147483648 ≤ t * D := by
    have h2 : BB < (t + 1) * (D + 1) := by rw [hD]; exact Nat.lt_mul_div_succ BB (by omega)
    rw [Nat.add_mul, Nat.mul_add, Nat.mul_one, Nat.one_mul] at h2
    rw [BB_eq] at *
    obtain ⟨a, rfl⟩ : ∃ a, t = a + 1 := ⟨t - 1, by omega⟩
    obtain ⟨b, hb⟩ : ∃ b, D = b + 1 := ⟨D - 1, by omega⟩
    have e : (a + 1) * D = a * b + a + b + 1 := by rw [hb, Nat.add_mul, Nat.mul_add]; omega
    omega
  have ey := val_full hl
  rw [val_digs, ht] at ey
  have hlow : val ((digs y).take n) < BB ^ n := by
    have := val_lt (small_take (small_digs y) n)
    rwa [List.length_take, Nat.min_eq_left (by omega)] at this
  have hub : y * D < BB ^ (n + 1) := by
    have h3 : y + 1 ≤ BB ^ n * (t + 1) := by rw [Nat.mul_add]; omega
    have h4 : (y + 1) * D ≤ BB ^ n * (t + 1) * D := Nat.mul_le_mul_right _ h3
    have h6 : BB ^ n * (t + 1) * D ≤ BB ^ n * BB := by rw [Nat.mul_assoc]; exact Nat.mul_le_mul_left _ hD1
    rw [Nat.pow_succ]
    rw [Nat.add_mul] at h4
    omega
  have hlb : BB ^ n * 2147483648 ≤ y * D := by
    have h3 : BB ^ n * t ≤ y := by omega
    have h4 : BB ^ n * t * D ≤ y * D := Nat.mul_le_mul_right _ h3
    have h6 : BB ^ n * 2147483648 ≤ BB ^ n * (t * D) := Nat.mul_le_mul_left _ htD
    rw [Nat.mul_assoc] at h4
    omega
  generalize y * D = z at *
  have hL : (digs z).length = n + 1 := by
    have h1 := val_lt (small_digs z)
    rw [val_digs] at h1
    have h2 : n < (digs z).length := by
      rcases Nat.lt_or_ge n (digs z).length with h | h
      · exact h
      · have h3 : BB ^ (digs z).length ≤ BB ^ n := Nat.pow_le_pow_right BB_pos h
        have h4 : BB ^ n * 1 ≤ BB ^ n * 2147483648 := Nat.mul_le_mul_left _ (by omega)
        omega
    rcases Nat.lt_or_ge (n + 1) (digs z).length with h | h
    · exfalso
      obtain ⟨k, hk⟩ : ∃ k, (digs z).length = k + 1 := ⟨(digs z).length - 1, by omega⟩
      have e := val_full hk
      rw [val_digs] at e
      have h3 := digs_last_pos hk
      have h4 : BB ^ k * 1 ≤ BB ^ k * (digs z).getD k 0 := Nat.mul_le_mul_left _ h3
      have h5 : BB ^ (n + 1) ≤ BB ^ k := Nat.pow_le_pow_right BB_pos (by omega)
      omega
    · omega
  refine ⟨hD0, hDB, hL, ?_⟩
  have e := val_full hL
  rw [val_digs] at e
  have h7 : val ((digs z).take n) < BB ^ n := by
    have := val_lt (small_take (small_digs z) n)
    rwa [List.length_take, Nat.min_eq_left (by omega)] at this
  have h8 : BB ^ n * 2147483648 < BB ^ n * ((digs z).getD n 0 + 1) := by rw [Nat.mul_add]; omega
  have := Nat.lt_of_mul_lt_mul_left h8
  omega
theorem div_scale {a b D q r : Nat} (hs : 0 < D) (hb : 0 < b) (h : a * D = q * (b * D) + r) (hr : r < b * D) : a / b = q ∧ r / D = a % b := by
  have h1 : (a * D) / (b * D) = q := by
    rw [h, Nat.mul_comm q, Nat.mul_add_div (Nat.mul_pos hb hs), Nat.div_eq_of_lt hr, Nat.add_zero]
  have h2 : (a * D) % (b * D) = r := by
    rw [h, Nat.mul_comm q, Nat.mul_add_mod, Nat.mod_eq_of_lt hr]
  rw [Nat.mul_div_mul_right _ _ hs] at h1
  rw [Nat.mul_mod_mul_right] at h2
  refine ⟨h1, ?_⟩
  rw [← h2, Nat.mul_div_cancel _ hs]

theorem scaled_start {ul : List Nat} {x y m n D : Nat} (hx : (digs x).length = m) (hy : (digs y).length = n + 1) (hle : n + 1 ≤ m) (hul : ul.length = m + 1) (hu : val ul = x * D) (hD : 0 < D) : val (ul.drop (m - (n + 1) + 1)) < y * D := by
  have h1 : x < BB ^ m := by have := val_lt (small_digs x); rwa [val_digs, hx] at this
  have h2 : BB ^ n ≤ y := by
    have e := val_full hy
    rw [val_digs] at e
    have := digs_last_pos hy
    have h3 : BB ^ n * 1 ≤ BB ^ n * (digs y).getD n 0 := Nat.mul_le_mul_left _ this
    omega
  have e1 : m - (n + 1) + 1 = m - n := by omega
  rw [e1]
  have h3 : val ul = val (ul.take (m - n)) + BB ^ (m - n) * val (ul.drop (m - n)) := by
    have := val_append (ul.take (m - n)) (ul.drop (m - n))
    rw [List.take_append_drop, List.length_take, Nat.min_eq_left (by omega)] at this
    exact this
  have h4 : x * D < BB ^ m * D := Nat.mul_lt_mul_of_pos_right h1 hD
  have h5 : BB ^ m * D = BB ^ (m - n) * (BB ^ n * D) := by
    rw [← Nat.mul_assoc, ← Nat.pow_add, show m - n + n = m by omega]
  have h6 : BB ^ (m - n) * val (ul.drop (m - n)) < BB ^ (m - n) * (BB ^ n * D) := by omega
  have h7 := Nat.lt_of_mul_lt_mul_left h6
  have h8 : BB ^ n * D ≤ y * D := Nat.mul_le_mul_right _ h2
  omega
theorem scaled_len {x m D : Nat} (hx : (digs x).length = m) (hD : D < BB) : (digs (x * D)).length ≤ m + 1 := by
  have h1 : x < BB ^ m := by have := val_lt (small_digs x); rwa [val_digs, hx] at this
  have h2 : x * D < BB ^ (m + 1) := by
    rw [Nat.pow_succ]
    rcases Nat.eq_zero_or_pos D with h | h
    · rw [h, Nat.mul_zero]; exact Nat.mul_pos (Nat.pow_pos BB_pos) BB_pos
    · exact Nat.lt_of_lt_of_le (Nat.mul_lt_mul_of_pos_right h1 h) (Nat.mul_le_mul_left _ (Nat.le_of_lt hD))
  generalize x * D = z at *
  rcases Nat.lt_or_ge (m + 1) (digs z).length with h | h
  · exfalso
    obtain ⟨k, hk⟩ : ∃ k, (digs z).length = k + 1 := ⟨(digs z).length - 1, by omega⟩
    have e := val_full hk
    rw [val_digs] at e
    have h3 := digs_last_pos hk
    have h4 : BB ^ k * 1 ≤ BB ^ k * (digs z).getD k 0 := Nat.mul_le_mul_left _ h3
    have h5 : BB ^ (m + 1) ≤ BB ^ k := Nat.pow_le_pow_right BB_pos (by omega)
    omega
  · exact h
theorem val_zeros (n : Nat) : val (List.replicate n 0) = 0 := by
  induction n with
  | zero => rfl
  | succ n ih => simp [List.replicate_succ, val, ih]

end Go.Proofs.YteefhmdameeoaaaGreat
